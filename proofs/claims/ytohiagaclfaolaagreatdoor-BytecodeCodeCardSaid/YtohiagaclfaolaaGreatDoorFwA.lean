import Derived.WalkKit
import Derived.Laws.StructEq

set_option linter.all false

namespace Go.Fw
open Go
inductive AV where
  |top
  |lit (v:Value)
  |sl (full:Bool) (sz:Nat) (xs:List AV)
  |arr (o ver:Nat)
  |ref (o off:Nat)
  |eref (o ver sz i j:Nat)
  |sref (x:AV) (j:Nat)
  |agg (xs:List AV)
  |tup (xs:List AV)
  |fn (f:Fn) (first captured:List AV)
  |gd (b:Bool) (x:AV)
  |sub (o ver sz lo hi:Nat)
  |mp (o:Nat)
  |bsl (o n:Nat)
instance:Inhabited AV:=⟨.top⟩
def AV.cells:AV→List AV
  |.agg xs=>xs
  |x=>[x]
def flat (xs:List AV):List AV:=xs.flatMap AV.cells
inductive RC (C:Nat→Nat→Option Value):AV→Value→Prop
  |top (v:Value):RC C .top v
  |lit (v:Value):RC C (.lit v) v
  |nil (full:Bool) (sz:Nat) (a:Option Addr):RC C (.sl full sz []) (.slice a 0 0)
  |sl (full:Bool) (sz:Nat) (xs:List AV) (b off cap:Nat) (f:Nat→Value) (hc:xs.length≤cap) (hm:cap≤maxLen)
    (hf:full=true→cap=xs.length) (hw:∀ x∈xs,x.cells.length=sz)
    (hC:∀ j,j<(flat xs).length→C b (off+j)=some (f j)) (h1:∀ j,j<(flat xs).length→(f j).oneCell'=true)
    (hR:∀ j,j<(flat xs).length→RC C ((flat xs).getD j .top) (f j)):
    RC C (.sl full sz xs) (.slice (some ⟨b,off,none⟩) xs.length cap)
  |sref (x:AV) (j b off:Nat) (f:Nat→Value) (hC:∀ t,t<x.cells.length→C b (off+t)=some (f t)) (h1:∀ t,t<x.cells.length→(f t).oneCell'=true)
     (hR:∀ t,t<x.cells.length→RC C (x.cells.getD t .top) (f t)):RC C (.sref x j) (.pointer (some ⟨b,off+j,none⟩))
  |agg (xs:List AV) (vs:List Value) (hl:vs.length=xs.length) (h1:∀ i,i<xs.length→(vs.getD i undef).oneCell'=true) (h:∀ i,i<xs.length→RC C (xs.getD i .top) (vs.getD i undef)):RC C (.agg xs) (.agg vs.toArray)
  |tup (xs:List AV) (vs:List Value) (hl:vs.length=xs.length) (h:∀ i,i<xs.length→RC C (xs.getD i .top) (vs.getD i undef)):RC C (.tup xs) (.tuple vs.toArray)
  |fn (f:Fn) (xs ys:List AV) (vs us:List Value) (hl:vs.length=xs.length) (h:∀ i,i<xs.length→RC C (xs.getD i .top) (vs.getD i undef))
    (hl':us.length=ys.length) (h':∀ i,i<ys.length→RC C (ys.getD i .top) (us.getD i undef)):RC C (.fn f xs ys) (.func f vs.toArray us.toArray)
  |gd (b:Bool) (x:AV) (v:Value) (h:b=true→RC C x v) (hu:b=false→v=undef):RC C (.gd b x) v
def CLe (C C':Nat→Nat→Option Value):Prop:=∀ k o u,C k o=some u→C' k o=some u
theorem CLe.refl (C:Nat→Nat→Option Value):CLe C C:=fun _ _ _ h=>h
theorem CLe.trans {A B C:Nat→Nat→Option Value} (h:CLe A B) (h':CLe B C):CLe A C:=fun k o u x=>h' k o u (h k o u x)
theorem RC.mono {C C':Nat→Nat→Option Value} {x:AV} {v:Value} (h:RC C x v) (hC:CLe C C'):RC C' x v:=by
  induction h with
  |top v=>exact .top v
  |lit v=>exact .lit v
  |nil full sz a=>exact .nil full sz a
  |sl full sz xs b off cap f hc hm hf hw hc' h1 _ ih=>exact .sl full sz xs b off cap f hc hm hf hw (fun j hj=>hC _ _ _ (hc' j hj)) h1 ih
  |sref x j b off f hc' h1 _ ih=>exact .sref x j b off f (fun t ht=>hC _ _ _ (hc' t ht)) h1 ih
  |agg xs vs hl h1 _ ih=>exact .agg xs vs hl h1 ih
  |tup xs vs hl _ ih=>exact .tup xs vs hl ih
  |fn f xs ys vs us hl _ hl' _ ih ih'=>exact .fn f xs ys vs us hl ih hl' ih'
  |gd b x v _ hu ih=>exact .gd b x v ih hu
structure Gh where
  C:Nat→Nat→Option Value
  n:Nat
  b:Nat→Value
  ver:Nat→Nat
def SubOf (b:Value) (sz lo hi:Nat) (v:Value):Prop:=lo≤hi∧((lo=0∧hi=0∧∃ a,b= .slice a 0 0∧v= .slice a 0 0)∨
  ∃ g n cap off,hi≤n∧n≤cap∧cap≤maxLen∧b= .slice (some ⟨g,0,none⟩) n cap∧v= .slice (some ⟨g,off,none⟩) (hi - lo) (cap - lo)∧(lo<cap→off=lo*sz))
inductive R (G:Gh):AV→Value→Prop
  |clo (x:AV) (v:Value) (h:RC G.C x v):R G x v
  |arr (o ver:Nat) (v:Value) (ho:o<G.n) (hv:ver≤G.ver o) (h:ver=G.ver o→v=G.b o) (hs:∃ a n cap,v= .slice a n cap):R G (.arr o ver) v
  |ref (o off g:Nat) (ho:o<G.n) (h:G.b o= .pointer (some ⟨g,0,none⟩)):R G (.ref o off) (.pointer (some ⟨g,off,none⟩))
  |eref (o ver sz i j:Nat) (v:Value) (ho:o<G.n) (hv:ver≤G.ver o)
     (h:ver=G.ver o→∃ g n cap,G.b o= .slice (some ⟨g,0,none⟩) n cap∧v= .pointer (some ⟨g,i*sz+j,none⟩)) (hs:∃ a,v= .pointer a):R G (.eref o ver sz i j) v
  |agg (xs:List AV) (vs:List Value) (hl:vs.length=xs.length) (h1:∀ i,i<xs.length→(vs.getD i undef).oneCell'=true) (h:∀ i,i<xs.length→R G (xs.getD i .top) (vs.getD i undef)):R G (.agg xs) (.agg vs.toArray)
  |tup (xs:List AV) (vs:List Value) (hl:vs.length=xs.length) (h:∀ i,i<xs.length→R G (xs.getD i .top) (vs.getD i undef)):R G (.tup xs) (.tuple vs.toArray)
  |fn (f:Fn) (xs ys:List AV) (vs us:List Value) (hl:vs.length=xs.length) (h:∀ i,i<xs.length→R G (xs.getD i .top) (vs.getD i undef))
    (hl':us.length=ys.length) (h':∀ i,i<ys.length→R G (ys.getD i .top) (us.getD i undef)):R G (.fn f xs ys) (.func f vs.toArray us.toArray)
  |gd (b:Bool) (x:AV) (v:Value) (h:b=true→R G x v) (hu:b=false→v=undef):R G (.gd b x) v
  |sub (o ver sz lo hi:Nat) (v:Value) (ho:o<G.n) (hv:ver≤G.ver o) (h:ver=G.ver o→SubOf (G.b o) sz lo hi v) (hs:∃ a n cap,v= .slice a n cap):R G (.sub o ver sz lo hi) v
  |mp (o g:Nat) (ho:o<G.n) (h:G.b o= .map (some g)):R G (.mp o) (.map (some g))
  |bsl (o n g cap:Nat) (ho:o<G.n) (h:G.b o= .pointer (some ⟨g,0,none⟩)) (hn:n≤cap) (hm:cap≤maxLen):R G (.bsl o n) (.slice (some ⟨g,0,none⟩) n cap)
structure Gh.le (G G':Gh):Prop where
  C:CLe G.C G'.C
  n:G.n≤G'.n
  ver:∀ o,o<G.n→G.ver o≤G'.ver o
  b:∀ o,o<G.n→G.ver o=G'.ver o→G'.b o=G.b o
  p:∀ o,o<G.n→(∀ a n c,G.b o≠ .slice a n c)→G'.b o=G.b o
theorem Gh.le.refl (G:Gh):G.le G:=⟨CLe.refl _,Nat.le_refl _,fun _ _=>Nat.le_refl _,fun _ _ _=>rfl,fun _ _ _=>rfl⟩
theorem Gh.le.trans {A B D:Gh} (h:A.le B) (k:B.le D):A.le D:=
  ⟨h.C.trans k.C,Nat.le_trans h.n k.n,fun o ho=>Nat.le_trans (h.ver o ho) (k.ver o (Nat.lt_of_lt_of_le ho h.n)),
   fun o ho e=>by
    have h1:=h.ver o ho
    have h2:=k.ver o (Nat.lt_of_lt_of_le ho h.n)
    rw [k.b o (Nat.lt_of_lt_of_le ho h.n) (by omega),h.b o ho (by omega)],
   fun o ho e=>(k.p o (Nat.lt_of_lt_of_le ho h.n) (by rw [h.p o ho e];exact e)).trans (h.p o ho e)⟩
theorem Gh.le.ptr {G G':Gh} (h:G.le G') {o:Nat} (ho:o<G.n) {a:Option Addr} (e:G.b o= .pointer a):G'.b o= .pointer a:=by
  rw [h.p o ho (by rw [e];intro a n c h;cases h),e]
theorem R.mono {G G':Gh} {x:AV} {v:Value} (h:R G x v) (hG:G.le G'):R G' x v:=by
  induction h with
  |clo x v h=>exact .clo x v (h.mono hG.C)
  |arr o ver v ho hv h hs=>
   have hv':=hG.ver o ho
   exact .arr o ver v (Nat.lt_of_lt_of_le ho hG.n) (by omega) (fun e=>by
     have e1:ver=G.ver o:=by omega
     rw [hG.b o ho (by omega)];exact h e1) hs
  |ref o off g ho h=>exact .ref o off g (Nat.lt_of_lt_of_le ho hG.n) (hG.ptr ho h)
  |bsl o n g cap ho h hn hm=>exact .bsl o n g cap (Nat.lt_of_lt_of_le ho hG.n) (hG.ptr ho h) hn hm
  |mp o g ho h=>exact .mp o g (Nat.lt_of_lt_of_le ho hG.n) (by rw [hG.p o ho (by rw [h];intro a n c h;cases h),h])
  |sub o ver sz lo hi v ho hv h hs=>
   have hv':=hG.ver o ho
   exact .sub o ver sz lo hi v (Nat.lt_of_lt_of_le ho hG.n) (by omega) (fun e=>by
     have e1:ver=G.ver o:=by omega
     rw [hG.b o ho (by omega)];exact h e1) hs
  |eref o ver sz i j v ho hv h hs=>
   have hv':=hG.ver o ho
   exact .eref o ver sz i j v (Nat.lt_of_lt_of_le ho hG.n) (by omega) (fun e=>by
     have e1:ver=G.ver o:=by omega
     rw [hG.b o ho (by omega)];exact h e1) hs
  |agg xs vs hl h1 _ ih=>exact .agg xs vs hl h1 ih
  |tup xs vs hl _ ih=>exact .tup xs vs hl ih
  |fn f xs ys vs us hl _ hl' _ ih ih'=>exact .fn f xs ys vs us hl ih hl' ih'
  |gd b x v _ hu ih=>exact .gd b x v ih hu
theorem R.lit_inv {G:Gh} {u v:Value} (h:R G (.lit u) v):v=u:=by
  cases h with
  |clo _ _ h=>cases h;rfl
theorem R.top {G:Gh} (v:Value):R G .top v:= .clo _ _ (.top v)
theorem R.lit {G:Gh} (v:Value):R G (.lit v) v:= .clo _ _ (.lit v)
theorem R.gd_inv {G:Gh} {b:Bool} {x:AV} {v:Value} (h:R G (.gd b x) v) (hb:b=true):R G x v:=by
  cases h with
  |clo _ _ h=>cases h with|gd _ _ _ h _=>exact .clo _ _ (h hb)
  |gd _ _ _ h _=>exact h hb
theorem R.gd_inv2 {G:Gh} {b:Bool} {x:AV} {v:Value} (h:R G (.gd b x) v) (hb:b=false):v=undef:=by
  cases h with
  |clo _ _ h=>cases h with|gd _ _ _ _ hu=>exact hu hb
  |gd _ _ _ _ hu=>exact hu hb
theorem R.agg_inv {G:Gh} {xs:List AV} {v:Value} (h:R G (.agg xs) v):
    ∃ vs:List Value,v= .agg vs.toArray∧vs.length=xs.length∧(∀ i,i<xs.length→(vs.getD i undef).oneCell'=true)∧∀ i,i<xs.length→R G (xs.getD i .top) (vs.getD i undef):=by
  cases h with
  |clo _ _ h=>cases h with|agg _ vs hl h1 h=>exact ⟨vs,rfl,hl,h1,fun i hi=> .clo _ _ (h i hi)⟩
  |agg _ vs hl h1 h=>exact ⟨vs,rfl,hl,h1,h⟩
theorem R.tup_inv {G:Gh} {xs:List AV} {v:Value} (h:R G (.tup xs) v):
    ∃ vs:List Value,v= .tuple vs.toArray∧vs.length=xs.length∧∀ i,i<xs.length→R G (xs.getD i .top) (vs.getD i undef):=by
  cases h with
  |clo _ _ h=>cases h with|tup _ vs hl h=>exact ⟨vs,rfl,hl,fun i hi=> .clo _ _ (h i hi)⟩
  |tup _ vs hl h=>exact ⟨vs,rfl,hl,h⟩
theorem R.fn_inv {G:Gh} {f:Fn} {xs ys:List AV} {v:Value} (h:R G (.fn f xs ys) v):
    ∃ vs us:List Value,v= .func f vs.toArray us.toArray∧(vs.length=xs.length∧∀ i,i<xs.length→R G (xs.getD i .top) (vs.getD i undef))∧
      (us.length=ys.length∧∀ i,i<ys.length→R G (ys.getD i .top) (us.getD i undef)):=by
  cases h with
  |clo _ _ h=>cases h with|fn _ _ _ vs us hl h hl' h'=>exact ⟨vs,us,rfl,⟨hl,fun i hi=> .clo _ _ (h i hi)⟩,hl',fun i hi=> .clo _ _ (h' i hi)⟩
  |fn _ _ _ vs us hl h hl' h'=>exact ⟨vs,us,rfl,⟨hl,h⟩,hl',h'⟩
theorem R.sl_inv {G:Gh} {full:Bool} {sz:Nat} {xs:List AV} {v:Value} (h:R G (.sl full sz xs) v):RC G.C (.sl full sz xs) v:=by
  cases h with|clo _ _ h=>exact h
theorem R.sref_inv {G:Gh} {x:AV} {j:Nat} {v:Value} (h:R G (.sref x j) v):RC G.C (.sref x j) v:=by
  cases h with|clo _ _ h=>exact h
theorem R.ref_inv {G:Gh} {o off:Nat} {v:Value} (h:R G (.ref o off) v):o<G.n∧∃ g,G.b o= .pointer (some ⟨g,0,none⟩)∧v= .pointer (some ⟨g,off,none⟩):=by
  cases h with
  |clo _ _ h=>cases h
  |ref _ _ g ho h=>exact ⟨ho,g,h,rfl⟩
theorem R.arr_inv {G:Gh} {o ver:Nat} {v:Value} (h:R G (.arr o ver) v):o<G.n∧ver≤G.ver o∧(ver=G.ver o→v=G.b o):=by
  cases h with
  |clo _ _ h=>cases h
  |arr _ _ _ ho hv h _=>exact ⟨ho,hv,h⟩
theorem R.eref_inv {G:Gh} {o ver sz i j:Nat} {v:Value} (h:R G (.eref o ver sz i j) v):o<G.n∧ver≤G.ver o∧
    (ver=G.ver o→∃ g n cap,G.b o= .slice (some ⟨g,0,none⟩) n cap∧v= .pointer (some ⟨g,i*sz+j,none⟩)):=by
  cases h with
  |clo _ _ h=>cases h
  |eref _ _ _ _ _ _ ho hv h _=>exact ⟨ho,hv,h⟩
theorem R.arr_slice {G:Gh} {o ver:Nat} {v:Value} (h:R G (.arr o ver) v):∃ a n cap,v= .slice a n cap:=by
  cases h with
  |clo _ _ h=>cases h
  |arr _ _ _ _ _ _ hs=>exact hs
theorem R.sub_slice {G:Gh} {o ver sz lo hi:Nat} {v:Value} (h:R G (.sub o ver sz lo hi) v):∃ a n cap,v= .slice a n cap:=by
  cases h with
  |clo _ _ h=>cases h
  |sub _ _ _ _ _ _ _ _ _ hs=>exact hs
theorem R.sub_inv {G:Gh} {o ver sz lo hi:Nat} {v:Value} (h:R G (.sub o ver sz lo hi) v):o<G.n∧ver≤G.ver o∧(ver=G.ver o→SubOf (G.b o) sz lo hi v):=by
  cases h with
  |clo _ _ h=>cases h
  |sub _ _ _ _ _ _ ho hv h _=>exact ⟨ho,hv,h⟩
theorem R.bsl_inv {G:Gh} {o n:Nat} {v:Value} (h:R G (.bsl o n) v):o<G.n∧∃ g cap,G.b o= .pointer (some ⟨g,0,none⟩)∧n≤cap∧cap≤maxLen∧v= .slice (some ⟨g,0,none⟩) n cap:=by
  cases h with
  |clo _ _ h=>cases h
  |bsl _ _ g cap ho h hn hm=>exact ⟨ho,g,cap,h,hn,hm,rfl⟩
theorem R.mp_inv {G:Gh} {o:Nat} {v:Value} (h:R G (.mp o) v):o<G.n∧∃ g,G.b o= .map (some g)∧v= .map (some g):=by
  cases h with
  |clo _ _ h=>cases h
  |mp _ g ho h=>exact ⟨ho,g,h,rfl⟩
theorem R.eref_ptr {G:Gh} {o ver sz i j:Nat} {v:Value} (h:R G (.eref o ver sz i j) v):∃ a,v= .pointer a:=by
  cases h with
  |clo _ _ h=>cases h
  |eref _ _ _ _ _ _ _ _ _ hs=>exact hs
def AV.solid:AV→Bool
  |.top=>false
  |.gd _ _=>false
  |.lit v=>v.oneCell'
  |.tup _=>false
  |_=>true
theorem one_cell {G:Gh} {x:AV} {v:Value} (h:R G x v) (hv:v.oneCell'=true) (hx:x.cells=[x]):
    v.cells.size=x.cells.length∧∀ i,i<x.cells.length→R G (x.cells.getD i .top) (v.cells.getD i undef)∧(v.cells.getD i undef).oneCell'=true:=by
  have hone:v.cells= #[v]:=by
    cases v with
    |agg cs=>cases hv
    |_=>rfl
  rw [hone,hx]
  refine ⟨rfl,fun i hi=>?_⟩
  have:i=0:=by simp at hi;omega
  subst this
  exact ⟨by simpa using h,by simpa using hv⟩
theorem R.cells {G:Gh} {x:AV} {v:Value} (h:R G x v) (hx:x.solid=true):
    v.cells.size=x.cells.length∧∀ i,i<x.cells.length→R G (x.cells.getD i .top) (v.cells.getD i undef)∧(v.cells.getD i undef).oneCell'=true:=by
  cases x with
  |agg xs=>
   obtain ⟨vs,rfl,hl,h1,hh⟩:=h.agg_inv
   exact ⟨by simpa [Value.cells,AV.cells] using hl,fun i hi=>⟨by simpa [Value.cells,AV.cells] using hh i hi,by simpa [Value.cells,AV.cells] using h1 i hi⟩⟩
  |gd b y=>cases hx
  |top=>cases hx
  |tup xs=>cases hx
  |lit u=>
   have hvu:=h.lit_inv
   subst hvu
   exact one_cell h hx rfl
  |arr o ver=>
   obtain ⟨_,_,_,rfl⟩:=h.arr_slice
   exact one_cell h rfl rfl
  |eref o ver sz i j=>
   obtain ⟨_,rfl⟩:=h.eref_ptr
   exact one_cell h rfl rfl
  |ref o off=>
   obtain ⟨_,_,_,rfl⟩:=h.ref_inv
   exact one_cell h rfl rfl
  |sub o ver sz lo hi=>
   obtain ⟨_,_,_,rfl⟩:=h.sub_slice
   exact one_cell h rfl rfl
  |mp o=>
   obtain ⟨_,_,_,rfl⟩:=h.mp_inv
   exact one_cell h rfl rfl
  |bsl o n=>
   obtain ⟨_,_,_,_,_,_,rfl⟩:=h.bsl_inv
   exact one_cell h rfl rfl
  |sl full sz xs=>refine one_cell h ?_ rfl;cases h.sl_inv<;>rfl
  |sref x j=>refine one_cell h ?_ rfl;cases h.sref_inv;rfl
  |fn f xs ys=>refine one_cell h ?_ rfl;obtain ⟨_,_,rfl,_⟩:=h.fn_inv;rfl
end Go.Fw

namespace Go.Fw
open Go
inductive AObj where
  |gone
  |box (t:TypeId) (cs:List AV)
  |arr (e sz:Nat) (xs:List AV) (ver:Nat) (fz:Bool)
  |map (es:List (Value×AV))
def AObj.live:AObj→Bool
  |.gone=>false
  |.box _ _=>true
  |.arr _ _ _ _ fz=> !fz
  |.map _=>true
def ownB:Value→Option Nat
  |.pointer (some a)=>some a.block
  |.slice (some a) _ cap=>if cap=0 then none else some a.block
  |.map (some g)=>some g
  |_=>none
def Blk (w:World) (g:Nat) (cur:Array Value) (e:TypeId):Prop:=
  ∃ fz:Nat×Nat,w.heap[g]? =some (.cells cur e fz)∧fz.1≤fz.2∧∀ off,off<cur.size→ ¬ (fz.1≤off∧off<fz.2)
theorem Blk.of_same {w w':World} {g:Nat} {cur:Array Value} {e:TypeId} (h:Blk w g cur e) (hs:w'.heap[g]? =w.heap[g]?):Blk w' g cur e:=
  let ⟨fz,h1,h2⟩:=h;⟨fz,hs.trans h1,h2⟩
theorem Blk.lt {w:World} {g:Nat} {cur:Array Value} {e:TypeId} (h:Blk w g cur e):g<w.heap.size:=by
  obtain ⟨fz,h1,_⟩:=h
  exact (Array.getElem?_eq_some_iff.1 h1).1
theorem Blk.cell {w:World} {g:Nat} {cur:Array Value} {e:TypeId} (h:Blk w g cur e) (off:Nat):w.cell? ⟨g,off,none⟩=cur[off]? :=by
  obtain ⟨fz,h1,_⟩:=h
  simp [World.cell?,h1]
theorem Blk.frozen {w:World} {g:Nat} {cur:Array Value} {e:TypeId} (h:Blk w g cur e) (off:Nat) (ho:off<cur.size):w.frozen? ⟨g,off,none⟩=false:=by
  obtain ⟨fz,h1,_,h2⟩:=h
  have:=h2 off ho
  simp only [World.frozen?,h1]
  simpa using this
structure ArrOk (G:Gh) (w:World) (v:Value) (e sz:Nat) (xs:List AV) (g cap:Nat) (cur:Array Value):Prop where
  v:v= .slice (some ⟨g,0,none⟩) xs.length cap
  pos:0<cap
  blk:Blk w g cur e
  le:xs.length≤cap
  max:cap≤maxLen
  size:cur.size=cap*sz
  wid:∀ x∈xs,x.cells.length=sz
  one:∀ i,i<(flat xs).length→(cur.getD i undef).oneCell'=true
  rel:∀ i,i<(flat xs).length→RC G.C ((flat xs).getD i .top) (cur.getD i undef)
  unc:∀ j,G.C g j=none
structure MapOk (G:Gh) (w:World) (es:List (Value×AV)) (g:Nat) (ents:Array MapEntry) (clock:Nat):Prop where
  heap:w.heap[g]? =some (.map ents clock)
  size:ents.size=es.length
  key:ents.toList.map (fun e:MapEntry=>e.key)=es.map (fun x=>x.1)
  val:∀ i,i<es.length→RC G.C ((es.map (fun x=>x.2)).getD i .top) ((ents.toList.map (fun e:MapEntry=>e.val)).getD i undef)
  unc:∀ j,G.C g j=none
def ObjOk (G:Gh) (w:World) (o:Nat):AObj→Prop
  |.gone=>True
  |.box t cs=>∃ g cur,G.b o= .pointer (some ⟨g,0,none⟩)∧Blk w g cur t∧cs.length≤cur.size∧
     (∀ i,i<cs.length→R G (cs.getD i .top) (cur.getD i undef)∧(cur.getD i undef).oneCell'=true)∧∀ j,G.C g j=none
  |.arr e sz xs ver fz=>G.ver o=ver∧(∃ a cap,G.b o= .slice a xs.length cap∧(xs≠[]→∃ g,a=some ⟨g,0,none⟩))∧
     if fz then RC G.C (.sl false sz xs) (G.b o) else
      (xs=[]∧∃ a,G.b o= .slice a 0 0)∨∃ g cap cur,ArrOk G w (G.b o) e sz xs g cap cur
  |.map es=>∃ g ents clock,G.b o= .map (some g)∧MapOk G w es g ents clock
theorem ArrOk.keep {G G':Gh} {w w':World} {v:Value} {e sz:Nat} {xs:List AV} {g cap:Nat} {cur:Array Value} (h:ArrOk G w v e sz xs g cap cur)
    (hC:CLe G.C G'.C) (hw:w'.heap[g]? =w.heap[g]?) (hu:∀ j,G'.C g j=none):ArrOk G' w' v e sz xs g cap cur:=
  ⟨h.v,h.pos,h.blk.of_same hw,h.le,h.max,h.size,h.wid,h.one,fun i hi=>(h.rel i hi).mono hC,hu⟩
theorem MapOk.keep {G G':Gh} {w w':World} {es:List (Value×AV)} {g:Nat} {ents:Array MapEntry} {clock:Nat} (h:MapOk G w es g ents clock)
    (hC:CLe G.C G'.C) (hw:w'.heap[g]? =w.heap[g]?) (hu:∀ j,G'.C g j=none):MapOk G' w' es g ents clock:=
  ⟨hw.trans h.heap,h.size,h.key,fun i hi=>(h.val i hi).mono hC,hu⟩
theorem ObjOk.keep {G G':Gh} {w w':World} {o:Nat} {ob:AObj} (h:ObjOk G w o ob) (hG:G.le G') (hb:G'.b o=G.b o) (hv:G'.ver o=G.ver o)
    (hw:ob.live=true→∀ g,ownB (G.b o)=some g→w'.heap[g]? =w.heap[g]? ∧∀ j,G'.C g j=none):ObjOk G' w' o ob:=by
  cases ob with
  |gone=>trivial
  |box t cs=>
   obtain ⟨g,cur,h1,h2,h3,h4,h5⟩:=h
   obtain ⟨k1,k2⟩:=hw rfl g (by rw [h1];rfl)
   exact ⟨g,cur,hb.trans h1,h2.of_same k1,h3,fun i hi=>⟨(h4 i hi).1.mono hG,(h4 i hi).2⟩,k2⟩
  |arr e sz xs ver fz=>
   obtain ⟨h1,h2,h3⟩:=h
   refine ⟨hv.trans h1,by rw [hb];exact h2,?_⟩
   cases fz with
   |true=>simp only [if_true] at h3 ⊢;rw [hb];exact h3.mono hG.C
   |false=>
    simp only [Bool.false_eq_true,if_false] at h3 ⊢
    rw [hb]
    rcases h3 with h3|⟨g,cap,cur,h3⟩
    ·exact .inl h3
    ·have hp:=h3.pos
     obtain ⟨k1,k2⟩:=hw rfl g (by rw [h3.v];simp [ownB];omega)
     exact .inr ⟨g,cap,cur,h3.keep hG.C k1 k2⟩
  |map es=>
   obtain ⟨g,ents,clock,h1,h2⟩:=h
   obtain ⟨k1,k2⟩:=hw rfl g (by rw [h1];rfl)
   exact ⟨g,ents,clock,hb.trans h1,h2.keep hG.C k1 k2⟩
class TB where
  tb:World→Prop
  up:∀ w w':World,(∀ k,k<w.heap.size→w'.heap[k]? =w.heap[k]?)→tb w→tb w'
def TbIn [TB] (w:World):Prop:=TB.tb w
theorem TbIn.up [TB] {w w':World} (h:TbIn w) (hb:∀ k,k<w.heap.size→w'.heap[k]? =w.heap[k]?):TbIn w':=TB.up w w' hb h
set_option linter.unusedSectionVars false
variable [TB]
structure Cx [TB] where
  w0:World
  M:Nat→Prop
  G0:Gh
  px:AV→List AObj→Prop
  tab:TbIn w0
  nm:∀ k,¬ M k
structure Rel (cx:Cx) (G:Gh) (σ:List AObj) (w:World):Prop where
  n:G.n=σ.length
  ok:∀ o ob,σ[o]? =some ob→ObjOk G w o ob
  inj:∀ o1 o2 ob1 ob2 g,σ[o1]? =some ob1→ob1.live=true→σ[o2]? =some ob2→ob2.live=true→ownB (G.b o1)=some g→ownB (G.b o2)=some g→o1=o2
  own:∀ o ob g,σ[o]? =some ob→ob.live=true→ownB (G.b o)=some g→cx.w0.heap.size≤g∨cx.M g
  cell:∀ k o u,G.C k o=some u→w.cell? ⟨k,o,none⟩=some u
  os:w.os=cx.w0.os
  tape:w.tape=cx.w0.tape
  output:w.output=cx.w0.output
  size:cx.w0.heap.size≤w.heap.size
  block:∀ k,k<cx.w0.heap.size→ ¬ cx.M k→w.heap[k]? =cx.w0.heap[k]?
  old:∀ k,k<cx.w0.heap.size→ ¬ cx.M k→∀ j,G.C k j=cx.G0.C k j
  le0:cx.G0.le G
structure More (w w':World):Prop where
  os:w'.os=w.os
  tape:w'.tape=w.tape
  output:w'.output=w.output
  size:w.heap.size≤w'.heap.size
  block:∀ k,k<w.heap.size→w'.heap[k]? =w.heap[k]?
theorem More.refl (w:World):More w w:=⟨rfl,rfl,rfl,Nat.le_refl _,fun _ _=>rfl⟩
theorem More.of_below {w w':World} (h:RowKit.Below w.heap.size w w'):More w w':=⟨h.os,h.tape,h.output,h.size,h.block⟩
theorem More.below {w w':World} (h:More w w'):RowKit.Below w.heap.size w w':=⟨h.os,h.tape,h.output,h.size,h.block⟩
theorem More.trans {a b c:World} (h:More a b) (k:More b c):More a c:=
  ⟨k.os.trans h.os,k.tape.trans h.tape,k.output.trans h.output,Nat.le_trans h.size k.size,fun i hi=>(k.block i (Nat.lt_of_lt_of_le hi h.size)).trans (h.block i hi)⟩
theorem More.cell {w w':World} (h:More w w') {k o:Nat} {u:Value} (hc:w.cell? ⟨k,o,none⟩=some u):w'.cell? ⟨k,o,none⟩=some u:=by
  have hk:k<w.heap.size:=World.block_lt_of_cell? w _ hc
  rw [World.cell?_of_block (w:=w) (h.block k hk)];exact hc
theorem More.push (w:World) (o:Obj):More w {w with heap:=w.heap.push o}:=
  ⟨rfl,rfl,rfl,by simp,fun k hk=>by simp only;rw [Array.getElem?_push,if_neg (by omega)]⟩
theorem More.drawn (w:World) (n:Nat):More w {w with drawn:=n}:=⟨rfl,rfl,rfl,Nat.le_refl _,fun _ _=>rfl⟩
theorem ObjOk.lt {G:Gh} {w:World} {o:Nat} {ob:AObj} (h:ObjOk G w o ob) (hl:ob.live=true) {g:Nat} (hg:ownB (G.b o)=some g):g<w.heap.size∧∀ j,G.C g j=none:=by
  cases ob with
  |gone=>cases hl
  |box t cs=>
   obtain ⟨g',cur,h1,h2,h3,h4,h5⟩:=h
   rw [h1] at hg
   simp [ownB] at hg
   subst hg
   exact ⟨h2.lt,h5⟩
  |arr e sz xs ver fz=>
   cases fz with
   |true=>cases hl
   |false=>
    obtain ⟨h1,h2,h3⟩:=h
    simp only [Bool.false_eq_true,if_false] at h3
    rcases h3 with ⟨_,a,h3⟩|⟨g',cap,cur,h3⟩
    ·rw [h3] at hg;cases a<;>simp [ownB] at hg
    ·rw [h3.v] at hg
     have hp:=h3.pos
     simp [ownB] at hg
     obtain ⟨_,hg⟩:=hg
     subst hg
     exact ⟨h3.blk.lt,h3.unc⟩
  |map es=>
   obtain ⟨g',ents,clock,h1,h2⟩:=h
   rw [h1] at hg
   simp [ownB] at hg
   subst hg
   exact ⟨(Array.getElem?_eq_some_iff.1 h2.heap).1,h2.unc⟩
theorem Rel.more {cx:Cx} {G:Gh} {σ:List AObj} {w w':World} (h:Rel cx G σ w) (hm:More w w'):Rel cx G σ w' where
  n:=h.n
  ok:=fun o ob ho=>(h.ok o ob ho).keep (Gh.le.refl G) rfl rfl (fun hl g hg=>by
   obtain ⟨k1,k2⟩:=(h.ok o ob ho).lt hl hg
   exact ⟨hm.block g k1,k2⟩)
  inj:=h.inj
  own:=h.own
  cell:=fun k o u hk=>hm.cell (h.cell k o u hk)
  os:=hm.os.trans h.os
  tape:=hm.tape.trans h.tape
  output:=hm.output.trans h.output
  size:=Nat.le_trans h.size hm.size
  block:=fun k hk hM=>(hm.block k (Nat.lt_of_lt_of_le hk h.size)).trans (h.block k hk hM)
  old:=h.old
  le0:=h.le0
theorem Rel.commit {cx:Cx} {G:Gh} {σ:List AObj} {w:World} (h:Rel cx G σ w) (C':Nat→Nat→Option Value) (hC:CLe G.C C')
    (hc:∀ k o u,C' k o=some u→w.cell? ⟨k,o,none⟩=some u)
    (hl:∀ o ob g,σ[o]? =some ob→ob.live=true→ownB (G.b o)=some g→∀ j,C' g j=none)
    (ho:∀ k,k<cx.w0.heap.size→ ¬ cx.M k→∀ j,C' k j=G.C k j):G.le {G with C:=C'}∧Rel cx {G with C:=C'} σ w:=by
  have hle:G.le {G with C:=C'}:=⟨hC,Nat.le_refl _,fun _ _=>Nat.le_refl _,fun _ _ _=>rfl,fun _ _ _=>rfl⟩
  exact ⟨hle,{
    n:=h.n
    ok:=fun o ob hob=>(h.ok o ob hob).keep hle rfl rfl (fun hl' g hg=>⟨rfl,hl o ob g hob hl' hg⟩)
    inj:=h.inj
    own:=h.own
    cell:=hc
    os:=h.os
    tape:=h.tape
    output:=h.output
    size:=h.size
    block:=h.block
    old:=fun k hk hM j=>(ho k hk hM j).trans (h.old k hk hM j)
    le0:=h.le0.trans hle}⟩
def addC (C:Nat→Nat→Option Value) (g:Nat) (cur:Array Value):Nat→Nat→Option Value:=fun k o=>if k=g then cur[o]? else C k o
theorem Rel.no_commit {cx:Cx} {G:Gh} {σ:List AObj} {w:World} (h:Rel cx G σ w) {k:Nat} (hk:w.heap.size≤k) (j:Nat):G.C k j=none:=by
  cases hc:G.C k j with
  |none=>rfl
  |some u=>
   have:=World.block_lt_of_cell? w _ (h.cell k j u hc)
   simp at this
   omega
theorem Rel.newRow {cx:Cx} {G:Gh} {σ:List AObj} {w:World} (h:Rel cx G σ w) (cur:Array Value) (e:TypeId) (fz:Nat×Nat):
    G.le {G with C:=addC G.C w.heap.size cur}∧Rel cx {G with C:=addC G.C w.heap.size cur} σ {w with heap:=w.heap.push (.cells cur e fz)}:=by
  refine (h.more (More.push w _)).commit _ ?_ ?_ ?_ ?_
  ·intro k o u hu
   unfold addC
   split
   ·rename_i hk;rw [h.no_commit (Nat.le_of_eq hk.symm)] at hu;cases hu
   ·exact hu
  ·intro k o u hu
   unfold addC at hu
   split at hu
   ·rename_i hk
    subst hk
    simp [World.cell?,hu]
   ·exact (More.push w _).cell (h.cell k o u hu)
  ·intro o ob g ho hl hg j
   obtain ⟨k1,k2⟩:=(h.ok o ob ho).lt hl hg
   unfold addC
   rw [if_neg (by omega)]
   exact k2 j
  ·intro k hk hM j
   unfold addC
   rw [if_neg (by have:=h.size;omega)]
def updN {α:Type} (f:Nat→α) (i:Nat) (x:α):Nat→α:=fun j=>if j=i then x else f j
theorem updN_same {α:Type} (f:Nat→α) (i:Nat) (x:α):updN f i x i=x:=by simp [updN]
theorem updN_ne {α:Type} (f:Nat→α) {i j:Nat} (x:α) (h:j≠i):updN f i x j=f j:=by simp [updN,h]
def Gh.push (G:Gh) (v:Value) (ver:Nat):Gh:={G with n:=G.n+1,b:=updN G.b G.n v,ver:=updN G.ver G.n ver}
theorem Gh.le_push (G:Gh) (v:Value) (ver:Nat):G.le (G.push v ver):=
  ⟨CLe.refl _,Nat.le_succ _,fun o ho=>by simp only [Gh.push];rw [updN_ne _ _ (by omega)];exact Nat.le_refl _,
   fun o ho _=>by simp only [Gh.push];rw [updN_ne _ _ (by omega)],fun o ho _=>by simp only [Gh.push];rw [updN_ne _ _ (by omega)]⟩
theorem Rel.pushObj {cx:Cx} {G:Gh} {σ:List AObj} {w:World} (h:Rel cx G σ w) (ob:AObj) (v:Value) (ver:Nat)
    (hob:ObjOk (G.push v ver) w σ.length ob)
    (hnew:ob.live=true→∀ g,ownB v=some g→(cx.w0.heap.size≤g∨cx.M g)∧∀ o ob',σ[o]? =some ob'→ob'.live=true→ownB (G.b o)≠some g):
    Rel cx (G.push v ver) (σ++[ob]) w:=by
  have hn:=h.n
  have hle:=G.le_push v ver
  have hb:∀ o,o<σ.length→(G.push v ver).b o=G.b o:=fun o ho=>by simp only [Gh.push];rw [updN_ne _ _ (by omega)]
  have hv:∀ o,o<σ.length→(G.push v ver).ver o=G.ver o:=fun o ho=>by simp only [Gh.push];rw [updN_ne _ _ (by omega)]
  have hbn:(G.push v ver).b σ.length=v:=by simp only [Gh.push];rw [←hn,updN_same]
  have split:∀ o ob',(σ++[ob])[o]? =some ob'→(o<σ.length∧σ[o]? =some ob')∨(o=σ.length∧ob'=ob):=by
    intro o ob' ho
    rcases Nat.lt_or_ge o σ.length with hlt|hge
    ·exact .inl ⟨hlt,by rw [List.getElem?_append_left hlt] at ho;exact ho⟩
    ·rw [List.getElem?_append_right hge] at ho
     have h0:o - σ.length=0:=by
       have:=(List.getElem?_eq_some_iff.1 ho).1
       simp at this;omega
     rw [h0] at ho
     simp at ho
     exact .inr ⟨by omega,ho.symm⟩
  refine ⟨by simp [Gh.push,hn],?_,?_,?_,h.cell,h.os,h.tape,h.output,h.size,h.block,h.old,h.le0.trans hle⟩
  ·intro o ob' ho
   rcases split o ob' ho with ⟨hlt,ho⟩|⟨rfl,rfl⟩
   ·exact (h.ok o ob' ho).keep hle (hb o hlt) (hv o hlt) (fun hl g hg=>⟨rfl,((h.ok o ob' ho).lt hl hg).2⟩)
   ·exact hob
  ·intro o1 o2 ob1 ob2 g ho1 hl1 ho2 hl2 hg1 hg2
   rcases split o1 ob1 ho1 with ⟨hlt1,p1⟩|⟨e1,e1'⟩<;>rcases split o2 ob2 ho2 with ⟨hlt2,p2⟩|⟨e2,e2'⟩<;>(try subst e1 e1')<;>(try subst e2 e2')
   ·rw [hb o1 hlt1] at hg1;rw [hb o2 hlt2] at hg2
    exact h.inj o1 o2 ob1 ob2 g p1 hl1 p2 hl2 hg1 hg2
   ·rw [hb o1 hlt1] at hg1;rw [hbn] at hg2
    exact absurd hg1 ((hnew hl2 g hg2).2 o1 ob1 p1 hl1)
   ·rw [hb o2 hlt2] at hg2;rw [hbn] at hg1
    exact absurd hg2 ((hnew hl1 g hg1).2 o2 ob2 p2 hl2)
   ·rfl
  ·intro o ob' g ho hl hg
   rcases split o ob' ho with ⟨hlt,ho⟩|⟨rfl,rfl⟩
   ·rw [hb o hlt] at hg;exact h.own o ob' g ho hl hg
   ·rw [hbn] at hg;exact (hnew hl g hg).1
theorem Rel.turn {cx:Cx} {G G':Gh} {σ:List AObj} {w w':World} (h:Rel cx G σ w) (o:Nat) (ob ob':AObj) (ho:σ[o]? =some ob) (hl:ob.live=true)
    (hG:G.le G') (hC:G'.C=G.C) (hn:G'.n=G.n) (hb:∀ i,i≠o→G'.b i=G.b i∧G'.ver i=G.ver i)
    (hob:ObjOk G' w' o ob')
    (hown:∀ g,ownB (G'.b o)=some g→ownB (G.b o)=some g∨w.heap.size≤g)
    (hos:w'.os=w.os) (htape:w'.tape=w.tape) (hout:w'.output=w.output) (hsize:w.heap.size≤w'.heap.size)
    (hblock:∀ k,k<w.heap.size→ownB (G.b o)≠some k→w'.heap[k]? =w.heap[k]?):Rel cx G' (σ.set o ob') w':=by
  have hlt:o<σ.length:=(List.getElem?_eq_some_iff.1 ho).1
  have split:∀ i x,(σ.set o ob')[i]? =some x→(i≠o∧σ[i]? =some x)∨(i=o∧x=ob'):=by
    intro i x hi
    by_cases e:i=o
    ·subst e;rw [List.getElem?_set_self hlt] at hi;exact .inr ⟨rfl,by simpa using hi.symm⟩
    ·rw [List.getElem?_set_ne (by omega)] at hi;exact .inl ⟨e,hi⟩
  have other:∀ i x g,i≠o→σ[i]? =some x→x.live=true→ownB (G.b i)=some g→ownB (G.b o)≠some g:=
    fun i x g hi hx hxl hg hg'=>hi (h.inj i o x ob g hx hxl ho hl hg hg')
  refine ⟨by simp [hn,h.n],?_,?_,?_,?_,hos.trans h.os,htape.trans h.tape,hout.trans h.output,Nat.le_trans h.size hsize,?_,?_,h.le0.trans hG⟩
  ·intro i x hi
   rcases split i x hi with ⟨hne,hi⟩|⟨rfl,rfl⟩
   ·refine (h.ok i x hi).keep hG (hb i hne).1 (hb i hne).2 (fun hxl g hg=>?_)
    obtain ⟨k1,k2⟩:=(h.ok i x hi).lt hxl hg
    exact ⟨hblock g k1 (other i x g hne hi hxl hg),by rw [hC];exact k2⟩
   ·exact hob
  ·intro o1 o2 ob1 ob2 g ho1 hl1 ho2 hl2 hg1 hg2
   rcases split o1 ob1 ho1 with ⟨hn1,p1⟩|⟨e1,e1'⟩<;>rcases split o2 ob2 ho2 with ⟨hn2,p2⟩|⟨e2,e2'⟩
   ·rw [(hb o1 hn1).1] at hg1;rw [(hb o2 hn2).1] at hg2
    exact h.inj o1 o2 ob1 ob2 g p1 hl1 p2 hl2 hg1 hg2
   ·rw [(hb o1 hn1).1] at hg1
    rw [e2] at hg2
    rcases hown g hg2 with hg2|hg2
    ·exact absurd hg2 (other o1 ob1 g hn1 p1 hl1 hg1)
    ·have:=((h.ok o1 ob1 p1).lt hl1 hg1).1;omega
   ·rw [(hb o2 hn2).1] at hg2
    rw [e1] at hg1
    rcases hown g hg1 with hg1|hg1
    ·exact absurd hg1 (other o2 ob2 g hn2 p2 hl2 hg2)
    ·have:=((h.ok o2 ob2 p2).lt hl2 hg2).1;omega
   ·rw [e1,e2]
  ·intro i x g hi hxl hg
   rcases split i x hi with ⟨hne,hi⟩|⟨rfl,rfl⟩
   ·rw [(hb i hne).1] at hg;exact h.own i x g hi hxl hg
   ·rcases hown g hg with hg|hg
    ·exact h.own _ ob g ho hl hg
    ·exact .inl (Nat.le_trans h.size hg)
  ·intro k j u hu
   rw [hC] at hu
   have hk:=h.cell k j u hu
   have hkl:k<w.heap.size:=World.block_lt_of_cell? w _ hk
   rw [World.cell?_of_block (w:=w) (hblock k hkl (fun hg=>by
    have:=((h.ok o ob ho).lt hl hg).2 j;rw [this] at hu;cases hu))]
   exact hk
  ·intro k hk hM
   rw [hblock k (Nat.lt_of_lt_of_le hk h.size) (fun hg=>by rcases h.own o ob k ho hl hg with h1|h1;·omega
                                                           ·exact hM h1)]
   exact h.block k hk hM
  ·intro k hk hM j
   rw [hC];exact h.old k hk hM j
end Go.Fw

namespace Go.Fw
open Go
set_option linter.unusedSectionVars false
variable [TB]
def szT (P:Program) (t:TypeId):Nat:=match P.info? t with|some i=>i.size|none=>0
def byT (P:Program) (t:TypeId):Nat:=match P.info? t with|some i=>i.bytes|none=>0
def zeroT (P:Program) (t:TypeId):Option Value:=(P.info? t).bind (·.zero)
def aggT (P:Program) (t:TypeId):Option Bool:=match P.underlying t with|some (.struct _)|some (.array _ _)=>some true|some _=>some false|none=>none
structure Env where
  zero:TypeId→AV
  wr:Nat→Bool
  eg:Nat→Bool
  jk:TypeId→AV
  pc:FuncId→List AV→Option (Prop×AV)
  ec:FuncId→List AV→List AObj→(AV→List AObj→Prop)→Prop
  px:AV→List AObj→Prop
abbrev VR:=Option (Prop×AV)
def yes (x:AV):VR:=some (True,x)
def need (p:Prop) (x:AV):VR:=some (p,x)
def ofConst:Value→AV
  |.agg cs=>if cs.toList.all (·.oneCell')=true then .agg (cs.toList.map .lit) else .lit (.agg cs)
  |v=> .lit v
def aev (f:Nat→AV):Operand→AV
  |.tmp t=>f t
  |.const v=>ofConst v
  |.global g=> .lit (.pointer (some ⟨g,0,none⟩))
  |.func g=> .fn (.func g) [] []
def getObj? (σ:List AObj) (o ver:Nat):Option (Nat×List AV):=
  match σ[o]? with
  |some (.arr _ sz xs ver' _)=>if ver=ver' then some (sz,xs) else none
  |_=>none
def slOf (σ:List AObj):AV→Option (Nat×List AV)
  |.sl _ sz xs=>some (sz,xs)
  |.arr o ver=>getObj? σ o ver
  |.sub o ver sz lo hi=>match getObj? σ o ver with
   |some (sz',xs)=>if sz=sz' then some (sz,(xs.take hi).drop lo) else none
   |none=>none
  |_=>none
def lenOf (σ:List AObj):AV→Option Nat
  |.sl _ _ xs=>some xs.length
  |.arr o ver=>(getObj? σ o ver).map (·.2.length)
  |.sub o ver _ lo hi=>(getObj? σ o ver).map fun _=>hi - lo
  |.lit (.slice none 0 0)=>some 0
  |.bsl _ n=>some n
  |_=>none
def pickB (t c d:Bool):Bool:=(t&&c)||(!t&&d)
def pickV (t:Bool):AV→AV→VR
  |.lit (.bool c),.lit (.bool d)=>yes (.lit (.bool (pickB t c d)))
  |.gd g (.lit (.bool c)),.lit (.bool d)=>need (t=true→g=true) (.lit (.bool (pickB t c d)))
  |.lit (.bool c),.gd g (.lit (.bool d))=>need (t=false→g=true) (.lit (.bool (pickB t c d)))
  |x,y=>if t=true then yes x else yes y
def partV (P:Program) (t:TypeId) (cs:List AV) (off:Nat):VR:=
  match aggT P t with
  |some true=>if off+szT P t≤cs.length then yes (.agg ((cs.drop off).take (szT P t))) else none
  |some false=>if off<cs.length then yes (cs.getD off .top) else none
  |none=>none
def loadV (P:Program) (jk:TypeId→AV) (σ:List AObj) (t:TypeId):AV→VR
  |.ref o off=>match σ[o]? with
   |some (.box _ cs)=>partV P t cs off
   |_=>none
  |.eref o ver sz i j=>match σ[o]? with
   |some (.arr e sz' xs ver' _)=>if ver=ver'∧sz=sz' then
      match partV P t (xs.getD i (jk e)).cells j with
      |some (p,x)=>need (i<xs.length∧p) x
      |none=>none
    else none
   |_=>none
  |.sref x j=>partV P t x.cells j
  |_=>none
def shiftV (σ:List AObj) (n:Nat):AV→VR
  |.ref o off=>yes (.ref o (off+n))
  |.eref o ver sz i j=>match getObj? σ o ver with
   |some (_,xs)=>need (i<xs.length) (.eref o ver sz i (j+n))
   |none=>none
  |.sref x j=>yes (.sref x (j+n))
  |_=>none
def fieldT (P:Program) (t:TypeId) (i:Nat):Option (TypeId×Nat):=match P.underlying t with
  |some (.struct fields)=>(fields[i]?).map fun f=>(f.type,f.offset)
  |_=>none
def structOk (P:Program) (t:TypeId):Bool:=match P.underlying t with
  |some (.struct fields)=>fields.toList.all fun f=>(P.info? f.type).isSome
  |_=>false
def fieldAddrV (P:Program) (σ:List AObj) (s:TypeId) (x:AV) (fld:Nat):VR:=
  match fieldT P s fld with
  |some (ft,off)=>if szT P ft=0 then none else shiftV σ off x
  |none=>none
def fieldV (P:Program) (s:TypeId) (x:AV) (fld:Nat):VR:=
  match fieldT P s fld,x with
  |some (ft,off),.agg cs=>partV P ft cs off
  |_,_=>none
def indexAddrV (P:Program) (jk:TypeId→AV) (σ:List AObj) (t:TypeId) (x ix:AV):VR:=
  match ix,P.underlying t with
  |.lit (.int _ i),some (.slice e)=>match x with
   |.sl _ sz xs=>if sz=szT P e∧0<sz then need (0≤i∧i<(xs.length:Int)) (.sref (xs.getD i.toNat (jk e)) 0) else none
   |.arr o ver=>match getObj? σ o ver with
    |some (sz,xs)=>if sz=szT P e∧0<sz then need (0≤i∧i<(xs.length:Int)) (.eref o ver sz i.toNat 0) else none
    |none=>none
   |.sub o ver sz lo hi=>match getObj? σ o ver with
    |some (sz',_)=>if sz=szT P e∧0<sz∧sz'=sz then need (0≤i∧i<((hi - lo:Nat):Int)) (.eref o ver sz (lo+i.toNat) 0) else none
    |none=>none
   |.bsl o n=>if szT P e=1 then need (0≤i∧i<(n:Int)) (.ref o i.toNat) else if szT P e=0 then none else need (0≤i∧i<(n:Int)) (.ref o (i.toNat*szT P e))
   |_=>none
  |.lit (.int _ i),some (.array n e)=>if szT P e=0 then none else match x with
   |.ref o off=>need (0≤i∧i<(n:Int)) (.ref o (off+i.toNat*szT P e))
   |.sref y j=>need (0≤i∧i<(n:Int)) (.sref y (j+i.toNat*szT P e))
   |_=>none
  |_,_=>none
def strAt (s:ByteArray) (i:Nat):Int:=((s.data.toList.getD i 0).toNat:Int)
def indexV (P:Program) (t:TypeId) (x ix:AV):VR:=
  match ix,P.underlying t with
  |.lit (.int _ i),some .string=>match x with
   |.lit (.string s)=>need (0≤i∧i<(s.size:Int)) (.lit (.int .u8 (strAt s i.toNat)))
   |_=>none
  |.lit (.int _ i),some (.array n e)=>if szT P e=0 then none else match x with
   |.agg cs=>match partV P e cs (i.toNat*szT P e) with
    |some (p,y)=>need (0≤i∧i<(n:Int)∧p) y
    |none=>none
   |_=>none
  |_,_=>none
def bndV (d:Nat):Option AV→Option Int
  |none=>some (d:Int)
  |some (.lit (.int _ i))=>some i
  |some _=>none
def subV (P:Program) (e:TypeId) (o ver sz base top:Nat) (lo hi mx:Option AV):VR:=
  match mx,bndV 0 lo,bndV (top - base) hi with
  |none,some l,some h=>if sz=szT P e∧0<sz then need (0≤l∧l≤h∧h≤((top - base:Nat):Int)) (.sub o ver sz (base+l.toNat) (base+h.toNat)) else none
  |_,_,_=>none
def slV (P:Program) (e:TypeId) (full:Bool) (sz:Nat) (xs:List AV) (lo hi mx:Option AV):VR:=
  if sz=szT P e∧0<sz then
      match mx,bndV 0 lo,bndV xs.length hi with
      |none,some l,some h=>need (0≤l∧l≤h∧h≤(xs.length:Int)) (.sl (full&&decide (h=(xs.length:Int))) sz ((xs.take h.toNat).drop l.toNat))
      |some (.lit (.int _ m)),some l,some h=>if hi.isSome=true then
         need (0≤l∧l≤h∧h≤m∧m≤(xs.length:Int)) (.sl (decide (m=h)) sz ((xs.take h.toNat).drop l.toNat)) else none
      |_,_,_=>none
   else none
def sliceV (P:Program) (σ:List AObj) (t:TypeId) (x:AV) (lo hi mx:Option AV):VR:=
  match P.underlying t,x with
  |some .string,.lit (.string s)=>match mx,bndV 0 lo,bndV s.size hi with
   |none,some l,some h=>need (0≤l∧l≤h∧h≤(s.size:Int)) (.lit (.string (s.extract l.toNat h.toNat)))
   |_,_,_=>none
  |some (.slice e),.sl full sz xs=>slV P e full sz xs lo hi mx
  |some (.slice e),.arr o ver=>match σ[o]? with
   |some (.arr _ sz xs ver' fz)=>if ver=ver' then (if fz=true then slV P e false sz xs lo hi mx else subV P e o ver sz 0 xs.length lo hi mx) else none
   |_=>none
  |some (.slice e),.sub o ver sz a b=>match σ[o]? with
   |some (.arr _ sz' xs ver' fz)=>if ver=ver'∧sz=sz' then (if fz=true then slV P e false sz ((xs.take b).drop a) lo hi mx else subV P e o ver sz a b lo hi mx) else none
   |_=>none
  |some (.slice e),.lit (.slice none 0 0)=>if szT P e=0 then none else match mx,bndV 0 lo,bndV 0 hi with
     |none,some l,some h=>need (l=0∧h=0) (.lit (.slice none 0 0))
     |_,_,_=>none
  |some (.slice e),.bsl o n=>if szT P e=1 then (match mx,lo,bndV n hi with
     |none,none,some h=>need (0≤h∧h≤(n:Int)) (.bsl o h.toNat)
     |_,_,_=>none) else none
  |some (.array n e),.ref o 0=>if szT P e=0∨1000000<n then none else (match mx,lo,hi with
     |none,none,none=>yes (.bsl o n)
     |_,_,_=>none)
  |_,_=>none
def inI64 (n:Int):Prop:= -9223372036854775808≤n∧n≤9223372036854775807
def arithV (wr:Bool) (k:IntKind) (n:Int):VR:=
  match k,wr with
  |.i64,false=>need (inI64 n) (.lit (.int .i64 n))
  |_,_=>yes (.lit (.int k (k.wrap n)))
def eqS (a b:ByteArray):Bool:=a.data.toList==b.data.toList
def ltS (a b:ByteArray):Bool:=Op.bytesLess a.data.toList b.data.toList
def shlI (k:IntKind) (a b:Int):Int:=k.wrap (a*2 ^ (min b.toNat k.bits))
def shrI (k:IntKind) (a b:Int):Int:=a.fdiv (2 ^ (min b.toNat k.bits))
def andI (k:IntKind) (a b:Int):Int:=k.wrap (BitVec.ofInt k.bits a&&&BitVec.ofInt k.bits b).toNat
def orI (k:IntKind) (a b:Int):Int:=k.wrap (BitVec.ofInt k.bits a|||BitVec.ofInt k.bits b).toNat
def xorI (k:IntKind) (a b:Int):Int:=k.wrap (BitVec.ofInt k.bits a ^^^ BitVec.ofInt k.bits b).toNat
def intBinV (wr:Bool) (op:BinOp) (k:IntKind) (a b:Int):VR:=
  match op with
  |.add=>arithV wr k (a+b)
  |.sub=>arithV wr k (a - b)
  |.mul=>arithV wr k (a*b)
  |.quo=>match k,wr with
   |.i64,false=>need (b≠0∧inI64 (a.tdiv b)) (.lit (.int .i64 (a.tdiv b)))
   |_,_=>need (b≠0) (.lit (.int k (k.wrap (a.tdiv b))))
  |.rem=>need (b≠0) (.lit (.int k (a.tmod b)))
  |.and=>yes (.lit (.int k (andI k a b)))
  |.or=>yes (.lit (.int k (orI k a b)))
  |.xor=>yes (.lit (.int k (xorI k a b)))
  |.eql=>yes (.lit (.bool (a==b)))
  |.neq=>yes (.lit (.bool (a !=b)))
  |.lss=>yes (.lit (.bool (decide (a<b))))
  |.leq=>yes (.lit (.bool (decide (a≤b))))
  |.gtr=>yes (.lit (.bool (decide (a>b))))
  |.geq=>yes (.lit (.bool (decide (a≥b))))
  |_=>none
def strBinV (op:BinOp) (a b:ByteArray):VR:=
  match op with
  |.add=>need ((a.size+b.size:Nat)≤9223372036854775807) (.lit (.string (a++b)))
  |.eql=>yes (.lit (.bool (eqS a b)))
  |.neq=>yes (.lit (.bool !(eqS a b)))
  |.lss=>yes (.lit (.bool (ltS a b)))
  |.gtr=>yes (.lit (.bool !(ltS a b||eqS a b)))
  |.leq=>yes (.lit (.bool (ltS a b||eqS a b)))
  |.geq=>yes (.lit (.bool !(ltS a b)))
  |_=>none
def isPtr:AV→Bool
  |.ref _ _=>true
  |.sref _ _=>true
  |_=>false
def isNilP:AV→Bool
  |.lit (.pointer none)=>true
  |_=>false
def boolEq:AV→AV→Option Bool
  |.lit (.bool a),.lit (.bool b)=>some (a==b)
  |_,_=>none
def ptrEq (x y:AV):Option Bool:=
  if isNilP x=true then (if isNilP y=true then some true else if isPtr y=true then some false else none)
  else if isNilP y=true then (if isPtr x=true then some false else none) else none
def kindT (P:Program) (t:TypeId):Option Nat:=match P.underlying t with
  |some (.int _)=>some 0
  |some .string=>some 1
  |some .bool=>some 2
  |_=>none
def seqL (P:Program):Nat→List Field→Option (List Nat)
  |_,[]=>some []
  |i,f::fs=>if f.name≠ "_"∧f.offset=i then (match kindT P f.type,seqL P (i+1) fs with
    |some k,some l=>some (k::l)
    |_,_=>none) else none
def seqK (P:Program) (t:TypeId):Option (List Nat):=match P.underlying t with
  |some (.struct fs)=>if P.stoodInHeld t=false∧P.eqGuardType P.depth t=false then seqL P 0 fs.toList else none
  |_=>none
def scEq:Nat→AV→AV→Option Bool
  |0,.lit (.int k a),.lit (.int k' b)=>if k=k' then some (a==b) else none
  |1,.lit (.string a),.lit (.string b)=>some (eqS a b)
  |2,.lit (.bool a),.lit (.bool b)=>some (a==b)
  |_,_,_=>none
def aggEq:List Nat→List AV→List AV→Option Bool
  |[],_,_=>some true
  |k::ks,x::xs,y::ys=>match scEq k x y,aggEq ks xs ys with
   |some b,some c=>some (b&&c)
   |_,_=>none
  |_,_,_=>none
def nilEq (P:Program) (t:TypeId) (x y:AV):Option Bool:=
  match x,y with
  |.agg xs,.agg ys=>match seqK P t with
   |some ks=>aggEq ks xs ys
   |none=>none
  |x,y=>match P.underlying t with
   |some (.pointer _)=>ptrEq x y
   |some .bool=>boolEq x y
   |_=>none
def isNilC:Operand→Bool
  |.const .nilIface=>true
  |_=>false
def ifaceB (op:BinOp) (x y:AV):Option Bool:=
  match op,x,y with
  |.eql,.lit .nilIface,.lit .nilIface=>some true
  |.neq,.lit .nilIface,.lit .nilIface=>some false
  |.eql,.lit (.iface _ _),.lit .nilIface=>some false
  |.neq,.lit (.iface _ _),.lit .nilIface=>some true
  |_,_,_=>none
def isIfT (P:Program) (t:TypeId):Bool:=match P.underlying t with
  |some (.interface _)=>true
  |_=>false
def ifaceV (P:Program) (op:BinOp) (t:TypeId) (x y:AV) (oy:Operand):Option Bool:=
  if isNilC oy=true then (if isIfT P t=true then ifaceB op x y else none) else none
def binV (P:Program) (wr:Bool) (op:BinOp) (t:TypeId) (x y:AV):VR:=
  match op,x,y with
  |.shl,.lit (.int k a),.lit (.int _ b)=>need (0≤b) (.lit (.int k (shlI k a b)))
  |.shr,.lit (.int k a),.lit (.int _ b)=>need (0≤b) (.lit (.int k (shrI k a b)))
  |op,.lit (.int k a),.lit (.int k' b)=>if k=k' then intBinV wr op k a b else none
  |op,.lit (.string a),.lit (.string b)=>strBinV op a b
  |.eql,x,y=>match nilEq P t x y with|some b=>yes (.lit (.bool b))|none=>none
  |.neq,x,y=>match nilEq P t x y with|some b=>yes (.lit (.bool (!b)))|none=>none
  |_,_,_=>none
def unV (wr:Bool) (op:UnOp):AV→VR
  |.lit (.int k a)=>match op with
   |.neg=>arithV wr k (0 - a)
   |_=>none
  |.lit (.bool b)=>match op with
   |.not=>yes (.lit (.bool !b))
   |_=>none
  |_=>none
def isNilS:AV→Bool
  |.lit (.slice none 0 0)=>true
  |_=>false
def u8sOf:List AV→Option (List Int)
  |[]=>some []
  |.lit (.int .u8 n)::xs=>(u8sOf xs).map (n:: ·)
  |_::_=>none
def bytesOf (l:List Int):ByteArray:=⟨(l.map fun n=>UInt8.ofNat n.toNat).toArray⟩
def u8s (s:ByteArray):List AV:=s.data.toList.map fun b=> .lit (.int .u8 (b.toNat:Int))
def convV (P:Program) (σ:List AObj) (src dst:TypeId) (x:AV):VR:=
  match P.underlying src,P.underlying dst,x with
  |some _,some (.int k),.lit (.int _ n)=>yes (.lit (.int k (k.wrap n)))
  |some .string,some .string,.lit (.string s)=>yes (.lit (.string s))
  |some (.slice e),some .string,x=>match P.underlying e,x with
   |some (.int .u8),.lit (.slice none 0 0)=>yes (.lit (.string ByteArray.empty))
   |some (.int .u8),x=>match slOf σ x with
    |some (sz,xs)=>match u8sOf xs with
     |some l=>if sz=1 then yes (.lit (.string (bytesOf l))) else none
     |none=>none
    |none=>none
   |_,_=>none
  |_,_,_=>none
def setRange (cs:List AV) (off:Nat):List AV→List AV
  |[]=>cs
  |y::ys=>setRange (cs.set off y) (off+1) ys
def fillV (place:Nat→Option (Nat×Nat)):List AV→List (Nat×AV)→Option (List AV)
  |cs,[]=>some cs
  |cs,(i,x)::rest=>match place i with
   |none=>none
   |some (off,size)=>if x.solid=true∧x.cells.length=size∧off+size≤cs.length then fillV place (setRange cs off x.cells) rest else none
def buildV (P:Program) (E:Env) (t:TypeId) (parts:List (Nat×AV)):VR:=
  if (E.zero t).solid=true∧(zeroT P t).isSome=true then
   if structOk P t=true then
    (fillV (fun i=>(fieldT P t i).map fun f=>(f.2,szT P f.1)) (E.zero t).cells parts).map fun cs=>(True,.agg cs)
   else match P.underlying t with
     |some (.array _ e)=>if szT P e=0 then none else (fillV (fun i=>some (i*szT P e,szT P e)) (E.zero t).cells parts).map fun cs=>(True,.agg cs)
     |_=>none
  else none
def minI (a b:Int):Int:=if b<a then b else a
def maxI (a b:Int):Int:=if b>a then b else a
def foldI (g:Int→Int→Int) (k:IntKind):Int→List AV→VR
  |a,[]=>yes (.lit (.int k a))
  |a,.lit (.int _ b)::xs=>foldI g k (g a b) xs
  |_,_::_=>none
def builtinV (P:Program) (σ:List AObj) (b:Builtin) (argTypes:Array TypeId) (args:List AV):VR:=
  match b,args with
  |.len,[x]=>match argTypes[0]? with
   |some t=>match P.underlying t with
    |some .string=>match x with
     |.lit (.string s)=>yes (.lit (.int .i64 (s.size:Int)))
     |_=>none
    |some (.slice _)=>match lenOf σ x with
     |some n=>yes (.lit (.int .i64 (n:Int)))
     |none=>none
    |some (.array n _)=>yes (.lit (.int .i64 (n:Int)))
    |_=>none
   |none=>none
  |.min,.lit (.int k a)::xs=>foldI minI k a xs
  |.max,.lit (.int k a)::xs=>foldI maxI k a xs
  |_,_=>none
def arrOf (live:Bool) (σ:List AObj) (o ver:Nat):Option AV:=
  match σ[o]? with
  |some (.arr _ sz xs ver' fz)=>if ver=ver'∧(fz=true∨live=true) then some (.sl false sz xs) else none
  |_=>none
def subOf (live:Bool) (σ:List AObj) (o ver sz lo hi:Nat):Option AV:=
  match σ[o]? with
  |some (.arr _ sz' xs ver' fz)=>if ver=ver'∧sz=sz'∧(fz=true∨live=true) then some (.sl false sz ((xs.take hi).drop lo)) else none
  |_=>none
def capC:AV→Bool
  |.lit _=>true
  |.sref _ _=>true
  |_=>false
def close0 (live:Bool) (σ:List AObj):AV→Option AV
  |.arr o ver=>arrOf live σ o ver
  |.sub o ver sz lo hi=>subOf live σ o ver sz lo hi
  |.lit v=>some (.lit v)
  |.top=>some .top
  |.sl full sz xs=>some (.sl full sz xs)
  |.sref x j=>some (.sref x j)
  |.fn f [] ys=>if ys.all capC=true then some (.fn f [] ys) else none
  |_=>none
def closeL0 (live:Bool) (σ:List AObj):List AV→Option (List AV)
  |[]=>some []
  |x::xs=>match close0 live σ x,closeL0 live σ xs with
   |some y,some ys=>some (y::ys)
   |_,_=>none
def close1 (live:Bool) (σ:List AObj):AV→Option AV
  |.agg xs=>(closeL0 live σ xs).map .agg
  |x=>close0 live σ x
def closeL1 (live:Bool) (σ:List AObj):List AV→Option (List AV)
  |[]=>some []
  |x::xs=>match close1 live σ x,closeL1 live σ xs with
   |some y,some ys=>some (y::ys)
   |_,_=>none
def close2 (live:Bool) (σ:List AObj):AV→Option AV
  |.tup xs=>(closeL1 live σ xs).map .tup
  |x=>close1 live σ x
def scal0:AV→Bool
  |.lit _=>true
  |.top=>true
  |_=>false
def scal1:AV→Bool
  |.agg xs=>xs.all scal0
  |x=>scal0 x
def scal2:AV→Bool
  |.tup xs=>xs.all scal1
  |x=>scal1 x
def buildL (σ:List AObj) (sz:Nat):List AV→List (Nat×AV)→Option (List AV)
  |xs,[]=>some xs
  |xs,(i,x)::rest=>match close1 false σ x with
   |some y=>if y.solid=true∧y.cells.length=sz∧i<xs.length then buildL σ sz (xs.set i y) rest else none
   |none=>none
def buildSliceV (P:Program) (E:Env) (σ:List AObj) (t:TypeId) (len:Nat) (parts:List (Nat×AV)):VR:=
  match P.underlying t with
  |some (.slice e)=>
   if (E.zero e).solid=true∧(E.zero e).cells.length=szT P e∧len*szT P e≤16777216∧0<szT P e∧(P.underlying e).isSome=true∧(zeroT P e).isSome=true then
    (buildL σ (szT P e) (List.replicate len (E.zero e)) parts).map fun xs=>(True,.sl true (szT P e) xs)
   else none
  |_=>none
def nilChkV (σ:List AObj):AV→VR
  |.ref o off=>yes (.ref o off)
  |.eref o ver sz i j=>match getObj? σ o ver with
   |some (_,xs)=>need (i<xs.length) (.eref o ver sz i j)
   |none=>none
  |.sref x j=>yes (.sref x j)
  |.fn (.func g) a b=>yes (.fn (.func g) a b)
  |_=>none
def extractV:AV→Nat→VR
  |.tup xs,i=>if i<xs.length then yes (xs.getD i .top) else none
  |_,_=>none
def srcOf (σ:List AObj):AV→Option (Nat×List AV)
  |.lit (.slice none 0 0)=>some (0,[])
  |.lit (.string s)=>some (1,u8s s)
  |x=>slOf σ x
def zOk (P:Program) (e:TypeId):Bool:=match zeroT P e with
  |some z=>z.cells.size==szT P e
  |none=>false
def appT (P:Program) (argTypes:Array TypeId):Option TypeId:=
  match argTypes[0]?,argTypes[1]? with
  |some t,some u=>match P.underlying t,P.underlying u with
   |some (.slice e),some (.slice _)=>if 0<szT P e∧0<byT P e∧zOk P e=true then some e else none
   |some (.slice e),some .string=>if 0<szT P e∧0<byT P e∧zOk P e=true then some e else none
   |_,_=>none
  |_,_=>none
def pappV (P:Program) (σ:List AObj) (argTypes:Array TypeId) (s x:AV):VR:=
  match appT P argTypes,srcOf σ x with
  |some e,some (sz',ys)=>match s with
     |.lit (.slice none 0 0)=>if sz'=szT P e∨ys=[] then need (ys.length*byT P e≤140737488355328) (.sl false (szT P e) ys) else none
     |.sl true sz xs=>if (sz'=sz∨ys=[])∧sz=szT P e then
        need ((xs=[]∨0<ys.length)∧(xs.length+ys.length)*byT P e≤140737488355328) (.sl false sz (xs++ys)) else none
     |_=>none
  |_,_=>none
def targetOf (f:AV) (args:List AV):Option (FuncId×List AV):=
  match f with
  |.fn (.func g) xs ys=>some (g,xs++args++ys)
  |_=>none
def callV (E:Env) (σ:List AObj) (f:AV) (args:List AV):VR:=
  match targetOf f args with
  |some (g,args)=>match closeL1 true σ args with
   |some args'=>match E.pc g args' with
    |some (p,r)=>if scal2 r=true∨(closeL1 false σ args).isSome=true then some (p,r) else none
    |none=>none
   |none=>none
  |none=>none
def isApp:Builtin→Bool
  |.append=>true
  |_=>false
def isCopy:Builtin→Bool
  |.copy=>true
  |_=>false
def sameA:TypeDesc→Value→Value→Option Bool
  |.int _,.int k a,.int k' b=>if k=k' then some (a==b) else none
  |.string,.string a,.string b=>some (eqS a b)
  |_,_,_=>none
def findA (d:TypeDesc) (k:Value):List (Value×AV)→Option (Option AV)
  |[]=>some none
  |e::es=>match sameA d k e.1 with
   |some true=>some (some e.2)
   |some false=>findA d k es
   |none=>none
def putA (d:TypeDesc) (k:Value) (x:AV):List (Value×AV)→Option (List (Value×AV))
  |[]=>some [(k,x)]
  |e::es=>match sameA d k e.1 with
   |some true=>some ((k,x)::es)
   |some false=>(putA d k x es).map (e:: ·)
   |none=>none
def keyT:TypeDesc→Bool
  |.int _=>true
  |.string=>true
  |_=>false
def lookV (P:Program) (E:Env) (σ:List AObj) (t:TypeId) (x key:AV) (ok:Bool):VR:=
  match P.underlying t,x,key with
  |some (.map kt et),.mp o,.lit k=>match σ[o]?,P.underlying kt with
   |some (.map es),some d=>if keyT d=true∧(zeroT P et).isSome=true then (match findA d k es with
    |some (some y)=>yes (if ok=true then .tup [y,.lit (.bool true)] else y)
    |some none=>yes (if ok=true then .tup [E.zero et,.lit (.bool false)] else E.zero et)
    |none=>none) else none
   |_,_=>none
  |_,_,_=>none
def notIf:Option TypeDesc→Bool
  |some (.interface _)=>false
  |some _=>true
  |none=>false
def ifcV (P:Program) (t:TypeId) (x:AV):VR:=
  if notIf (P.underlying t)=true then (match x with
   |.lit v=>yes (.lit (.iface t v))
   |.agg []=>yes (.lit (.iface t (.agg #[])))
   |_=>none) else none
def pval (P:Program) (E:Env) (ev:Operand→AV) (σ:List AObj) (o:Oper):VR:=
  match o.op with
  |.move x|.assign x=>yes (ev x)
  |.pick c a b=>match ev c with
   |.lit (.bool t)=>pickV t (ev a) (ev b)
   |_=>none
  |.build t parts=>buildV P E t (parts.toList.map fun p=>(p.1,ev p.2))
  |.buildSlice t len parts=>buildSliceV P E σ t len (parts.toList.map fun p=>(p.1,ev p.2))
  |.load t a=>loadV P E.jk σ t (ev a)
  |.nilCheck x=>nilChkV σ (ev x)
  |.binOp op t x y _=>match ifaceV P op t (ev x) (ev y) y with
   |some b=>yes (.lit (.bool b))
   |none=>binV P (E.wr (o.dst.getD 0)) op t (ev x) (ev y)
  |.unOp op _ x=>unV (E.wr (o.dst.getD 0)) op (ev x)
  |.convert s d x=>convV P σ s d (ev x)
  |.makeFunc fn first captured=>yes (.fn fn (first.toList.map ev) (captured.toList.map ev))
  |.slice t x lo hi mx=>sliceV P σ t (ev x) (lo.map ev) (hi.map ev) (mx.map ev)
  |.fieldAddr s x f=>fieldAddrV P σ s (ev x) f
  |.field s x f=>fieldV P s (ev x) f
  |.indexAddr t x i=>indexAddrV P E.jk σ t (ev x) (ev i)
  |.index t x i=>indexV P t (ev x) (ev i)
  |.extract t i=>extractV (ev t) i
  |.lookup t x i ok=>lookV P E σ t (ev x) (ev i) ok
  |.makeInterface t x=>ifcV P t (ev x)
  |.call c=>match c.callee with
   |.builtin b=>if isApp b=true then (match c.args.toList with
      |[s,x]=>pappV P σ c.argTypes (ev s) (ev x)
      |_=>none) else builtinV P σ b c.argTypes (c.args.toList.map ev)
   |.value f=>callV E σ (ev f) (c.args.toList.map ev)
   |_=>none
  |_=>none
end Go.Fw

namespace Go.Fw
open Go
set_option linter.unusedSectionVars false
variable [TB]
variable {P:Program} {G:Gh} {w:World}
theorem aggT_run {t:TypeId} {b:Bool} (h:aggT P t=some b):(isAgg t).run P w= .ok b w:=by
  unfold aggT at h
  unfold isAgg underlying
  cases hu:P.underlying t with
  |none=>rw [hu] at h;cases h
  |some d=>
   rw [hu] at h
   simp [hu]
   cases d<;>simp_all
theorem underlying_info {t:TypeId} {d:TypeDesc} (h:P.underlying t=some d):∃ i,P.info? t=some i:=by
  unfold Program.underlying at h
  cases hi:P.info? t with
  |none=>rw [hi] at h;cases h
  |some i=>exact ⟨i,rfl⟩
theorem run_und {t:TypeId} {d:TypeDesc} (h:P.underlying t=some d):(underlying t).run P w= .ok d w:=by
  simp [underlying,h]
theorem run_size {t:TypeId} {d:TypeDesc} (h:P.underlying t=some d):(sizeOf t).run P w= .ok (szT P t) w:=by
  obtain ⟨i,hi⟩:=underlying_info h
  simp [sizeOf,typeInfo,szT,hi]
theorem run_info {t:TypeId} {d:TypeDesc} (h:P.underlying t=some d):∃ i,P.info? t=some i∧i.size=szT P t∧i.bytes=byT P t∧i.zero=zeroT P t:=by
  obtain ⟨i,hi⟩:=underlying_info h
  exact ⟨i,hi,by simp [szT,hi],by simp [byT,hi],by simp [zeroT,hi]⟩
theorem aggT_und {t:TypeId} {b:Bool} (h:aggT P t=some b):∃ d,P.underlying t=some d:=by
  unfold aggT at h
  cases hu:P.underlying t with
  |none=>rw [hu] at h;cases h
  |some d=>exact ⟨d,rfl⟩
theorem getD_elem {α:Type} (xs:List α) (d:α) {i:Nat} (hi:i<xs.length):xs.getD i d=xs[i]:=by simp [List.getD,hi]
theorem getD_app_left {α:Type} (xs ys:List α) (d:α) {i:Nat} (hi:i<xs.length):(xs++ys).getD i d=xs.getD i d:=by
  simp [List.getD,List.getElem?_append_left hi]
theorem getD_app_right {α:Type} (xs ys:List α) (d:α) {i:Nat} (hi:xs.length≤i):(xs++ys).getD i d=ys.getD (i - xs.length) d:=by
  simp [List.getD,List.getElem?_append_right hi]
theorem getD_drop_take {α:Type} (xs:List α) (off n i:Nat) (d:α) (hi:i<n):((xs.drop off).take n).getD i d=xs.getD (off+i) d:=by
  simp [List.getD,List.getElem?_take,hi]
theorem partV_sound {t:TypeId} {cs:List AV} {vs:List Value} {off:Nat} {p:Prop} {x:AV} (hl:vs.length=cs.length)
    (h1:∀ i,i<cs.length→(vs.getD i undef).oneCell'=true) (h:∀ i,i<cs.length→R G (cs.getD i .top) (vs.getD i undef))
    (hv:partV P t cs off=some (p,x)):∃ v,(part t vs.toArray off).run P w= .ok v w∧R G x v:=by
  unfold partV at hv
  cases ha:aggT P t with
  |none=>rw [ha] at hv;cases hv
  |some b=>
   obtain ⟨d,hd⟩:=aggT_und ha
   rw [ha] at hv
   cases b with
   |true=>
    simp only at hv
    split at hv
    ·rename_i hle
     cases hv
     refine ⟨.agg (vs.toArray.extract off (off+szT P t)),?_,?_⟩
     ·simp [part,aggT_run ha,run_size hd]
     ·have e:vs.toArray.extract off (off+szT P t)=((vs.drop off).take (szT P t)).toArray:=by
        simp [List.extract_toArray,List.extract]
      rw [e]
      refine .agg _ _ (by simp;omega) (fun i hi=>?_) (fun i hi=>?_)
      ·have hi':i<szT P t:=by simp at hi;omega
       rw [getD_drop_take _ _ _ _ _ hi'];exact h1 _ (by omega)
      ·have hi':i<szT P t:=by simp at hi;omega
       rw [getD_drop_take _ _ _ _ _ hi',getD_drop_take _ _ _ _ _ hi'];exact h _ (by omega)
    ·cases hv
   |false=>
    simp only at hv
    split at hv
    ·rename_i hlt
     cases hv
     have hlt':off<vs.length:=by omega
     refine ⟨vs[off],?_,?_⟩
     ·simp [part,aggT_run ha,hlt']
     ·have:=h off hlt
      rw [getD_elem _ _ hlt'] at this
      exact this
    ·cases hv
theorem loadCellsFrom_run (a:Addr) (f:Nat→Value):∀ (n i:Nat) (acc:Array Value),(∀ j,i≤j→j<i+n→w.cell? (a.add j)=some (f j))→
    (loadCellsFrom a i n acc).run P w= .ok (acc++((List.range n).map fun j=>f (i+j)).toArray) w
  |0,i,acc,_=>by simp [loadCellsFrom]
  |n+1,i,acc,h=>by
   have h0:=h i (Nat.le_refl _) (by omega)
   have ih:=loadCellsFrom_run a f n (i+1) (acc.push (f i)) (fun j h1 h2=>h j (by omega) (by omega))
   simp only [loadCellsFrom,Sem.run_bind,run_load,h0,Result.andThen_ok,ih]
   congr 1
   rw [List.range_succ_eq_map]
   simp [Function.comp_def,Nat.add_assoc,Nat.add_comm 1]
theorem Addr.add_plain (b o n:Nat):Addr.add ⟨b,o,none⟩ n=⟨b,o+n,none⟩:=Addr.add_lit b o n
theorem loadCells_run (b off n:Nat) (f:Nat→Value) (h:∀ j,j<n→w.cell? ⟨b,off+j,none⟩=some (f j)):
    (loadCells ⟨b,off,none⟩ n).run P w= .ok ((List.range n).map f).toArray w:=by
  have:=loadCellsFrom_run (P:=P) (w:=w) ⟨b,off,none⟩ f n 0 #[] (fun j _ hj=>by rw [Addr.add_plain];exact h j (by omega))
  simpa [loadCells] using this
theorem loadAt_sound {t:TypeId} {cs:List AV} {b o0 off:Nat} {f:Nat→Value} {p:Prop} {x:AV}
    (hc:∀ i,i<cs.length→w.cell? ⟨b,o0+i,none⟩=some (f i)) (h1:∀ i,i<cs.length→(f i).oneCell'=true)
    (h:∀ i,i<cs.length→R G (cs.getD i .top) (f i)) (hv:partV P t cs off=some (p,x)):
    ∃ v,(Instr.loadAt t (.pointer (some ⟨b,o0+off,none⟩))).run P w= .ok v w∧R G x v:=by
  unfold partV at hv
  cases ha:aggT P t with
  |none=>rw [ha] at hv;cases hv
  |some bb=>
   obtain ⟨d,hd⟩:=aggT_und ha
   rw [ha] at hv
   cases bb with
   |true=>
    simp only at hv
    split at hv
    ·rename_i hle
     cases hv
     have hr:=loadCells_run (P:=P) (w:=w) b (o0+off) (szT P t) (fun j=>f (off+j)) (fun j hj=>by rw [Nat.add_assoc];exact hc _ (by omega))
     refine ⟨.agg ((List.range (szT P t)).map fun j=>f (off+j)).toArray,?_,?_⟩
     ·simp [Instr.loadAt,Instr.sureAddr,loadVar,aggT_run ha,run_size hd,hr]
     ·refine .agg _ _ (by simp;omega) (fun i hi=>?_) (fun i hi=>?_)
      ·have hi':i<szT P t:=by simp at hi;omega
       simp [hi'];exact h1 _ (by omega)
      ·have hi':i<szT P t:=by simp at hi;omega
       rw [getD_drop_take _ _ _ _ _ hi']
       simp [hi'];exact h _ (by omega)
    ·cases hv
   |false=>
    simp only at hv
    split at hv
    ·rename_i hlt
     cases hv
     refine ⟨f off,?_,h off hlt⟩
     simp [Instr.loadAt,Instr.sureAddr,loadVar,aggT_run ha,hc off hlt]
    ·cases hv
theorem flat_length {xs:List AV} {sz:Nat} (hw:∀ x∈xs,x.cells.length=sz):(flat xs).length=xs.length*sz:=by
  induction xs with
  |nil=>simp [flat]
  |cons x xs ih=>
   have h1:=hw x (by simp)
   have h2:=ih (fun y hy=>hw y (by simp [hy]))
   simp only [flat,List.flatMap_cons,List.length_append,List.length_cons] at h2 ⊢
   rw [h1,h2,Nat.add_mul];omega
theorem flat_getD {xs:List AV} {sz:Nat} (hw:∀ x∈xs,x.cells.length=sz) (i j:Nat) (hi:i<xs.length) (hj:j<sz):
    (flat xs).getD (i*sz+j) .top=(xs.getD i .top).cells.getD j .top:=by
  induction xs generalizing i with
  |nil=>simp at hi
  |cons x xs ih=>
   have h1:=hw x (by simp)
   have e:flat (x::xs)=x.cells++flat xs:=by simp [flat]
   rw [e]
   cases i with
   |zero=>
    simp only [Nat.zero_mul,Nat.zero_add,List.getD_cons_zero]
    rw [getD_app_left _ _ _ (by omega)]
   |succ i=>
    have h2:=ih (fun y hy=>hw y (by simp [hy])) i (by simpa using hi)
    rw [getD_app_right _ _ _ (by rw [h1,Nat.add_mul];omega)]
    rw [h1,show (i+1)*sz+j - sz=i*sz+j by rw [Nat.add_mul];omega,h2]
    simp
theorem idx_lt {i j n sz:Nat} (hi:i<n) (hj:j<sz):i*sz+j<n*sz:=by
  have:(i+1)*sz≤n*sz:=Nat.mul_le_mul_right _ (by omega)
  rw [Nat.add_mul] at this;omega
theorem getD_mem' {xs:List AV} {i:Nat} (hi:i<xs.length):xs.getD i .top∈xs:=by
  rw [getD_elem _ _ hi];exact List.getElem_mem hi
theorem sref_of_sl {sz:Nat} {xs:List AV} {b off:Nat} {f:Nat→Value} {i:Nat} (hi:i<xs.length)
    (hw:∀ x∈xs,x.cells.length=sz) (hC:∀ j,j<(flat xs).length→G.C b (off+j)=some (f j)) (h1:∀ j,j<(flat xs).length→(f j).oneCell'=true)
    (hR:∀ j,j<(flat xs).length→RC G.C ((flat xs).getD j .top) (f j)):RC G.C (.sref (xs.getD i .top) 0) (.pointer (some ⟨b,off+i*sz,none⟩)):=by
  have hx:=hw _ (getD_mem' hi)
  have hfl:=flat_length hw
  have:=RC.sref (C:=G.C) (xs.getD i .top) 0 b (off+i*sz) (fun t=>f (i*sz+t)) (fun t ht=>by
    rw [hx] at ht
    rw [Nat.add_assoc];exact hC _ (by rw [hfl];exact idx_lt hi ht)) (fun t ht=>by
    rw [hx] at ht
    exact h1 _ (by rw [hfl];exact idx_lt hi ht)) (fun t ht=>by
    rw [hx] at ht
    have:=hR (i*sz+t) (by rw [hfl];exact idx_lt hi ht)
    rwa [flat_getD hw i t hi ht] at this)
  simpa using this
end Go.Fw

namespace Go.Fw
open Go
set_option linter.unusedSectionVars false
variable [TB]
variable {P:Program} {E:Env} {cx:Cx} {G:Gh} {σ:List AObj} {w:World}
def inW (C:Nat→Nat→Option Value) (w:World):Prop:=(∀ k o u,C k o=some u→w.cell? ⟨k,o,none⟩=some u)∧TbIn w
theorem Rel.inW (hr:Rel cx G σ w):Fw.inW G.C w:=⟨hr.cell,cx.tab.up fun k hk=>hr.block k hk (cx.nm k)⟩
def RL (C:Nat→Nat→Option Value) (xs:List AV) (vs:List Value):Prop:=vs.length=xs.length∧∀ i,i<xs.length→RC C (xs.getD i .top) (vs.getD i undef)
def RLG (G:Gh) (xs:List AV) (vs:List Value):Prop:=vs.length=xs.length∧∀ i,i<xs.length→R G (xs.getD i .top) (vs.getD i undef)
def PC (P:Program) (f:FuncId) (args:List AV) (r:AV):Prop:=
  ∀ (C:Nat→Nat→Option Value) (w:World) (vs:List Value),RL C args vs→inW C w→
    Calls P f vs.toArray w fun e w'=>∃ v C',e= .returned v∧CLe C C'∧RC C' r v∧inW C' w'∧More w w'∧∀ k,k<w.heap.size→∀ j,C' k j=C k j
def EC (P:Program) (f:FuncId) (args:List AV) (σ:List AObj) (k:AV→List AObj→Prop):Prop:=
  ∀ (cx:Cx) (G:Gh) (w:World) (vs:List Value),Rel cx G σ w→RLG G args vs→
    Calls P f vs.toArray w fun e w'=>∃ v G' σ' x,e= .returned v∧G.le G'∧Rel cx G' σ' w'∧R G' x v∧k x σ'
def Pan (cx:Cx) (G:Gh) (chain:List PanicEntry) (w:World):Prop:=∃ v G' σ' x,chain=[{v,recovered:=false}]∧G.le G'∧Rel cx G' σ' w∧R G' x v∧cx.px x σ'
def Ends (cx:Cx) (G:Gh) (k:AV→List AObj→Prop):Ending→World→Prop
  |.returned v,w'=>∃ G' σ' x,G.le G'∧Rel cx G' σ' w'∧R G' x v∧k x σ'
  |.panicked chain,w'=>Pan cx G chain w'
  |.outgrown,_=>False
def XEC (P:Program) (X:AV→List AObj→Prop) (f:FuncId) (args:List AV) (σ:List AObj) (k:AV→List AObj→Prop):Prop:=
  ∀ (cx:Cx) (G:Gh) (w:World) (vs:List Value),cx.px=X→Rel cx G σ w→RLG G args vs→Calls P f vs.toArray w (Ends cx G k)
theorem EC.xec {P:Program} {X:AV→List AObj→Prop} {f:FuncId} {args:List AV} {σ:List AObj} {k:AV→List AObj→Prop} (h:EC P f args σ k):XEC P X f args σ k:=fun cx G w vs _ hr hl=>
  (h cx G w vs hr hl).mono (by rintro e w' ⟨v,G',σ',x,rfl,k1,k2,k3,k4⟩;exact ⟨G',σ',x,k1,k2,k3,k4⟩)
def fok (P:Program) (f:FuncId):Bool:=match P.funcs[f]? with
  |some fn=>fn.name != "runtime.NumGoroutine"&&fn.body.isSome
  |none=>false
def XC (P:Program) (f:FuncId) (args:List AV) (r:AV):Prop:=
  ∀ (C:Nat→Nat→Option Value) (w:World) (vs:List Value),RL C args vs→∃ v,(callFunc f vs.toArray).run P w= .ok (.value v) w∧RC C r v
structure EnvOk (P:Program) (E:Env):Prop where
  zero:∀ t v,zeroT P t=some v→RC (fun _ _=>none) (E.zero t) v
  pc:∀ f args p r,E.pc f args=some (p,r)→p→(fok P f=true∧PC P f args r)∨XC P f args r
  ec:∀ f args σ k,E.ec f args σ k→fok P f=true∧XEC P E.px f args σ k
def Yield (P:Program) (cx:Cx) (G:Gh) (k:AV→List AObj→Prop):Result Next→Prop
  |.ok (.value v) w'=>∃ G' σ' x,G.le G'∧Rel cx G' σ' w'∧R G' x v∧k x σ'
  |.ok .skip w'=>∃ G' σ' x,G.le G'∧Rel cx G' σ' w'∧R G' x undef∧k x σ'
  |.ok (.enter f args) w'=>Calls P f args w' (Ends cx G k)
  |.halt (.panic v) w'=>Pan cx G [{v,recovered:=false}] w'
  |_=>False
theorem Yield.value (hr:Rel cx G σ w) {k:AV→List AObj→Prop} {x:AV} {v:Value} (hx:R G x v) (hk:k x σ):Yield P cx G k (.ok (.value v) w):=
  ⟨G,σ,x,Gh.le.refl G,hr,hx,hk⟩
theorem R.of_getObj {o ver sz:Nat} {xs:List AV} {v:Value} (hr:Rel cx G σ w) (hg:getObj? σ o ver=some (sz,xs)) (hx:R G (.arr o ver) v):
    ∃ e fz,σ[o]? =some (.arr e sz xs ver fz)∧v=G.b o∧ObjOk G w o (.arr e sz xs ver fz):=by
  unfold getObj? at hg
  cases ho:σ[o]? with
  |none=>rw [ho] at hg;cases hg
  |some ob=>
   rw [ho] at hg
   cases ob with
   |gone=>cases hg
   |box t cs=>cases hg
   |map es=>cases hg
   |arr e sz' xs' ver' fz=>
    simp only at hg
    split at hg
    ·rename_i hv
     cases hg
     subst hv
     have hok:=hr.ok o _ ho
     exact ⟨e,fz,rfl,hx.arr_inv.2.2 hok.1.symm,hok⟩
    ·cases hg
def allC (w:World):Nat→Nat→Option Value:=fun k o=>w.cell? ⟨k,o,none⟩
theorem Rel.le_all (hr:Rel cx G σ w):CLe G.C (allC w):=fun k o u h=>hr.cell k o u h
theorem empty_sl {C:Nat→Nat→Option Value} {full:Bool} {sz:Nat} {a:Option Addr}:RC C (.sl full sz []) (.slice a 0 0):= .nil full sz a
theorem ObjOk.all {o e sz ver:Nat} {xs:List AV} {fz:Bool} (hr:Rel cx G σ w) (h:ObjOk G w o (.arr e sz xs ver fz)):RC (allC w) (.sl false sz xs) (G.b o):=by
  obtain ⟨_,_,h3⟩:=h
  cases fz with
  |true=>exact RC.mono h3 hr.le_all
  |false=>
   simp only [Bool.false_eq_true,if_false] at h3
   rcases h3 with ⟨rfl,a,ha⟩|⟨g,cap,cur,ha⟩
   ·rw [ha];exact empty_sl
   ·rw [ha.v]
    have hfl:=flat_length ha.wid
    have hlt:∀ j,j<(flat xs).length→j<cur.size:=fun j hj=>by
      rw [hfl] at hj;rw [ha.size];exact Nat.lt_of_lt_of_le hj (Nat.mul_le_mul_right _ ha.le)
    exact .sl false sz xs g 0 cap (fun j=>cur.getD j undef) ha.le ha.max (by simp) ha.wid
      (fun j hj=>by
        have:=hlt j hj
        simp [allC,ha.blk.cell,this])
      ha.one (fun j hj=>RC.mono (ha.rel j hj) hr.le_all)
theorem arrOf_sound {live:Bool} {o ver:Nat} {v:Value} {y:AV} (hr:Rel cx G σ w) (hx:R G (.arr o ver) v) (h:arrOf live σ o ver=some y):
    RC (if live then allC w else G.C) y v:=by
  unfold arrOf at h
  cases ho:σ[o]? with
  |none=>rw [ho] at h;cases h
  |some ob=>
   rw [ho] at h
   cases ob with
   |gone=>cases h
   |box t cs=>cases h
   |map es=>cases h
   |arr e sz xs ver' fz=>
    simp only at h
    split at h
    ·rename_i hv
     obtain ⟨rfl,hv⟩:=hv
     cases h
     have hok:=hr.ok o _ ho
     have hvb:=hx.arr_inv.2.2 hok.1.symm
     rw [hvb]
     cases live with
     |true=>exact hok.all hr
     |false=>
      have hfz:fz=true:=by simpa using hv
      subst hfz
      exact hok.2.2
    ·cases h
theorem flat_drop {xs:List AV} {sz:Nat} (hw:∀ x∈xs,x.cells.length=sz) (lo hi:Nat) (hh:hi≤xs.length) (j:Nat) (hj:j<(flat ((xs.take hi).drop lo)).length):
    lo*sz+j<(flat xs).length∧(flat ((xs.take hi).drop lo)).getD j .top=(flat xs).getD (lo*sz+j) .top:=by
  have hw':∀ x∈(xs.take hi).drop lo,x.cells.length=sz:=fun x hx=>hw x (List.mem_of_mem_take (List.mem_of_mem_drop hx))
  have hl:=flat_length hw
  have hl':=flat_length hw'
  rw [hl'] at hj
  simp only [List.length_drop,List.length_take] at hj
  have hsz:0<sz:=by
    rcases Nat.eq_zero_or_pos sz with h|h
    ·rw [h] at hj;simp at hj
    ·exact h
  obtain ⟨q,r,ej,hd,hm⟩:∃ q r,j=q*sz+r∧q<min hi xs.length - lo∧r<sz:=by
    refine ⟨j / sz,j % sz,by rw [Nat.mul_comm];exact (Nat.div_add_mod j sz).symm,?_,Nat.mod_lt j hsz⟩
    rw [Nat.div_lt_iff_lt_mul hsz];exact hj
  subst ej
  have hq:q<hi - lo:=by have:=Nat.min_le_left hi xs.length;omega
  have e2:lo*sz+(q*sz+r)=(lo+q)*sz+r:=by rw [Nat.add_mul];omega
  refine ⟨by rw [e2,hl];exact idx_lt (by omega) hm,?_⟩
  rw [e2,flat_getD hw _ _ (by omega) hm,flat_getD hw' _ _ (by simp;omega) hm]
  congr 2
  simp only [List.getD_eq_getElem?_getD,List.getElem?_drop,List.getElem?_take]
  rw [if_pos (by omega)]
theorem sub_rc {C:Nat→Nat→Option Value} {full:Bool} {sz:Nat} {xs:List AV} {b v:Value} {lo hi:Nat} (h:RC C (.sl full sz xs) b) (hs:SubOf b sz lo hi v):RC C (.sl false sz ((xs.take hi).drop lo)) v:=by
  obtain ⟨hle,⟨rfl,rfl,a,rfl,rfl⟩|⟨g,n,cap,off,h1,h2,h3,rfl,rfl,h4⟩⟩:=hs
  ·simp only [List.take_zero,List.drop_nil];exact .nil _ _ _
  ·have hn:n=xs.length:=by cases h<;>rfl
   have key:∃ f:Nat→Value,(∀ x∈xs,x.cells.length=sz)∧(∀ j,j<(flat xs).length→C g (0+j)=some (f j))∧(∀ j,j<(flat xs).length→(f j).oneCell'=true)∧
     ∀ j,j<(flat xs).length→RC C ((flat xs).getD j .top) (f j):=by
     cases h with
     |nil=>exact ⟨fun _=>undef,by simp,by simp [flat],by simp [flat],by simp [flat]⟩
     |sl _ _ _ _ _ _ f _ _ _ hw hC k1 hR=>exact ⟨f,hw,hC,k1,hR⟩
   obtain ⟨f,hw,hC,k1,hR⟩:=key
   have hlen:((xs.take hi).drop lo).length=hi - lo:=by simp;omega
   have:=RC.sl (C:=C) false sz ((xs.take hi).drop lo) g off (cap - lo) (fun j=>f (lo*sz+j)) (by rw [hlen];omega) (by omega) (by simp)
     (fun x hx=>hw x (List.mem_of_mem_take (List.mem_of_mem_drop hx))) (fun j hj=>by
       have hlo:lo<cap:=by
         have:0<((xs.take hi).drop lo).length:=by
           rcases Nat.eq_zero_or_pos ((xs.take hi).drop lo).length with e|e
           ·rw [List.eq_nil_of_length_eq_zero e] at hj;simp [flat] at hj
           ·exact e
         omega
       rw [h4 hlo]
       have:=hC (lo*sz+j) (flat_drop hw lo hi (by omega) j hj).1
       rw [Nat.zero_add] at this
       exact this)
     (fun j hj=>k1 _ (flat_drop hw lo hi (by omega) j hj).1) (fun j hj=>by
       rw [(flat_drop hw lo hi (by omega) j hj).2];exact hR _ (flat_drop hw lo hi (by omega) j hj).1)
   rw [hlen] at this
   exact this
theorem subOf_sound {live:Bool} {o ver sz lo hi:Nat} {v:Value} {y:AV} (hr:Rel cx G σ w) (hx:R G (.sub o ver sz lo hi) v) (h:subOf live σ o ver sz lo hi=some y):
    RC (if live then allC w else G.C) y v:=by
  unfold subOf at h
  split at h
  ·rename_i e sz' xs ver' fz ho
   split at h
   ·rename_i hv
    obtain ⟨rfl,rfl,hv⟩:=hv
    cases h
    have hok:=hr.ok o _ ho
    refine sub_rc (full:=false) ?_ (hx.sub_inv.2.2 hok.1.symm)
    cases live with
    |true=>exact hok.all hr
    |false=>
     have hfz:fz=true:=by simpa using hv
     subst hfz
     exact hok.2.2
   ·cases h
  ·cases h
theorem sub_all {o ver sz sz' lo hi:Nat} {xs:List AV} {v:Value} (hr:Rel cx G σ w) (hg:getObj? σ o ver=some (sz',xs)) (hs:sz=sz') (hx:R G (.sub o ver sz lo hi) v):RC (allC w) (.sl false sz ((xs.take hi).drop lo)) v∧hi≤xs.length∧lo≤hi∧ver=G.ver o:=by
  unfold getObj? at hg
  split at hg
  ·rename_i e sz'' xs' ver' fz ho
   split at hg
   ·rename_i hv
    subst hv
    cases hg
    subst hs
    have hok:=hr.ok o _ ho
    have hsub:=hx.sub_inv.2.2 hok.1.symm
    have hall:=hok.all hr
    refine ⟨sub_rc hall hsub,?_,hsub.1,hok.1.symm⟩
    obtain ⟨hle,⟨rfl,rfl,_⟩|⟨g,n,cap,off,h1,h2,h3,hb,_⟩⟩:=hsub
    ·exact Nat.zero_le _
    ·have:n=xs.length:=by
       rw [hb] at hall
       cases hall<;>rfl
     omega
   ·cases hg
  ·cases hg
theorem getObj_ver {o ver:Nat} {z:Nat×List AV} (hr:Rel cx G σ w) (hg:getObj? σ o ver=some z):ver=G.ver o:=by
  unfold getObj? at hg
  split at hg
  ·rename_i e sz xs ver' fz ho
   split at hg
   ·rename_i hv;subst hv;exact ((hr.ok o _ ho).1).symm
   ·cases hg
  ·cases hg
theorem SubOf.slice {b v:Value} {sz lo hi:Nat} (h:SubOf b sz lo hi v):∃ a cap,v= .slice a (hi - lo) cap:=by
  obtain ⟨_,⟨rfl,rfl,a,_,rfl⟩|⟨g,n,cap,off,_,_,_,_,rfl,_⟩⟩:=h
  ·exact ⟨_,_,rfl⟩
  ·exact ⟨_,_,rfl⟩
theorem capC_rc {G:Gh} {x:AV} {v:Value} (hc:capC x=true) (h:R G x v):RC G.C x v:=by
  cases x with
  |lit u=>rw [h.lit_inv];exact .lit u
  |sref x j=>exact h.sref_inv
  |_=>cases hc
theorem close0_sound {live:Bool} {x y:AV} {v:Value} (hr:Rel cx G σ w) (hx:R G x v) (h:close0 live σ x=some y):RC (if live then allC w else G.C) y v:=by
  have hC:CLe G.C (if live then allC w else G.C):=by cases live;exact CLe.refl _;exact hr.le_all
  cases x with
  |arr o ver=>exact arrOf_sound hr hx h
  |sub o ver sz lo hi=>exact subOf_sound hr hx h
  |lit u=>cases h;rw [hx.lit_inv];exact .lit u
  |top=>cases h;exact .top v
  |sl full sz xs=>cases h;exact hx.sl_inv.mono hC
  |sref x j=>cases h;exact hx.sref_inv.mono hC
  |fn f xs ys=>
   cases xs with
   |cons _ _=>cases h
   |nil=>
    simp only [close0] at h
    split at h
    ·rename_i hc
     cases h
     obtain ⟨vs,us,rfl,⟨hl,_⟩,hl',hh'⟩:=hx.fn_inv
     refine .fn f [] ys vs us hl (by simp) hl' fun i hi=>?_
     refine (capC_rc ?_ (hh' i hi)).mono hC
     rw [List.getD_eq_getElem?_getD,List.getElem?_eq_getElem hi]
     exact List.all_eq_true.1 hc _ (List.getElem_mem hi)
    ·cases h
  |_=>cases h
theorem closeL0_sound {live:Bool}:∀ {xs ys:List AV} {vs:List Value},Rel cx G σ w→RLG G xs vs→closeL0 live σ xs=some ys→RL (if live then allC w else G.C) ys vs
  |[],ys,vs,_,⟨hl,_⟩,h=>by cases h;exact ⟨hl,by simp⟩
  |x::xs,ys,vs,hr,⟨hl,hh⟩,h=>by
   simp only [closeL0] at h
   split at h
   ·rename_i y ys' h1 h2
    cases h
    cases vs with
    |nil=>simp at hl
    |cons v vs=>
     have h0:=close0_sound hr (by simpa using hh 0 (by simp)) h1
     obtain ⟨k1,k2⟩:=closeL0_sound (vs:=vs) hr ⟨by simpa using hl,fun i hi=>by simpa using hh (i+1) (by simpa using hi)⟩ h2
     refine ⟨by simp [k1],fun i hi=>?_⟩
     cases i with
     |zero=>simpa using h0
     |succ i=>simpa using k2 i (by simpa using hi)
   ·cases h
theorem close1_sound {live:Bool} {x y:AV} {v:Value} (hr:Rel cx G σ w) (hx:R G x v) (h:close1 live σ x=some y):RC (if live then allC w else G.C) y v:=by
  cases x with
  |agg xs=>
   obtain ⟨vs,rfl,hl,h1,hh⟩:=hx.agg_inv
   simp only [close1,Option.map_eq_some_iff] at h
   obtain ⟨ys,h,rfl⟩:=h
   obtain ⟨k1,k2⟩:=closeL0_sound hr ⟨hl,hh⟩ h
   exact .agg ys vs k1 (fun i hi=>h1 i (by omega)) k2
  |_=>exact close0_sound hr hx h
theorem closeL1_sound {live:Bool}:∀ {xs ys:List AV} {vs:List Value},Rel cx G σ w→RLG G xs vs→closeL1 live σ xs=some ys→RL (if live then allC w else G.C) ys vs
  |[],ys,vs,_,⟨hl,_⟩,h=>by cases h;exact ⟨hl,by simp⟩
  |x::xs,ys,vs,hr,⟨hl,hh⟩,h=>by
   simp only [closeL1] at h
   split at h
   ·rename_i y ys' h1 h2
    cases h
    cases vs with
    |nil=>simp at hl
    |cons v vs=>
     have h0:=close1_sound hr (by simpa using hh 0 (by simp)) h1
     obtain ⟨k1,k2⟩:=closeL1_sound (vs:=vs) hr ⟨by simpa using hl,fun i hi=>by simpa using hh (i+1) (by simpa using hi)⟩ h2
     refine ⟨by simp [k1],fun i hi=>?_⟩
     cases i with
     |zero=>simpa using h0
     |succ i=>simpa using k2 i (by simpa using hi)
   ·cases h
theorem close2_sound {live:Bool} {x y:AV} {v:Value} (hr:Rel cx G σ w) (hx:R G x v) (h:close2 live σ x=some y):RC (if live then allC w else G.C) y v:=by
  cases x with
  |tup xs=>
   obtain ⟨vs,rfl,hl,hh⟩:=hx.tup_inv
   simp only [close2,Option.map_eq_some_iff] at h
   obtain ⟨ys,h,rfl⟩:=h
   obtain ⟨k1,k2⟩:=closeL1_sound hr ⟨hl,hh⟩ h
   exact .tup ys vs k1 k2
  |_=>exact close1_sound hr hx h
theorem scal0_rc {C C':Nat→Nat→Option Value} {x:AV} {v:Value} (h:RC C x v) (hs:scal0 x=true):RC C' x v:=by
  cases x with
  |lit u=>cases h;exact .lit _
  |top=>exact .top v
  |_=>cases hs
theorem scal1_rc {C C':Nat→Nat→Option Value} {x:AV} {v:Value} (h:RC C x v) (hs:scal1 x=true):RC C' x v:=by
  cases x with
  |agg xs=>
   cases h with
   |agg _ vs hl h1 h=>
    simp only [scal1,List.all_eq_true] at hs
    exact .agg _ _ hl h1 fun i hi=>scal0_rc (h i hi) (hs _ (getD_mem' hi))
  |_=>exact scal0_rc h hs
theorem scal2_rc {C C':Nat→Nat→Option Value} {x:AV} {v:Value} (h:RC C x v) (hs:scal2 x=true):RC C' x v:=by
  cases x with
  |tup xs=>
   cases h with
   |tup _ vs hl h=>
    simp only [scal2,List.all_eq_true] at hs
    exact .tup _ _ hl fun i hi=>scal1_rc (h i hi) (hs _ (getD_mem' hi))
  |_=>exact scal1_rc h hs
end Go.Fw

namespace Go.Fw
open Go
set_option linter.unusedSectionVars false
variable [TB]
variable {P:Program} {E:Env} {cx:Cx} {G:Gh} {σ:List AObj} {w:World}
theorem pickV_sound {t:Bool} {x y z:AV} {u v:Value} {p:Prop} (hx:R G x u) (hy:R G y v) (h:pickV t x y=some (p,z)) (hp:p):R G z (if t then u else v):=by
  unfold pickV at h
  split at h
  ·cases h
   rw [hx.lit_inv,hy.lit_inv]
   cases t<;>simp [pickB]<;>exact R.lit _
  ·cases h
   rw [hy.lit_inv]
   cases t with
   |false=>simp [pickB];exact R.lit _
   |true=>rw [(hx.gd_inv (hp rfl)).lit_inv];simp [pickB];exact R.lit _
  ·cases h
   rw [hx.lit_inv]
   cases t with
   |true=>simp [pickB];exact R.lit _
   |false=>rw [(hy.gd_inv (hp rfl)).lit_inv];simp [pickB];exact R.lit _
  ·split at h
   ·rename_i ht;cases h;rw [if_pos ht];exact hx
   ·rename_i ht;cases h;rw [if_neg ht];exact hy
theorem box_of {o:Nat} {t:TypeId} {cs:List AV} {off:Nat} {v:Value} (hr:Rel cx G σ w) (ho:σ[o]? =some (.box t cs)) (hx:R G (.ref o off) v):
    ∃ g cur,G.b o= .pointer (some ⟨g,0,none⟩)∧v= .pointer (some ⟨g,off,none⟩)∧Blk w g cur t∧cs.length≤cur.size∧
      (∀ i,i<cs.length→R G (cs.getD i .top) (cur.getD i undef)∧(cur.getD i undef).oneCell'=true):=by
  obtain ⟨_,g,hg,hv⟩:=hx.ref_inv
  obtain ⟨g',cur,h1,h2,h3,h4,_⟩:=hr.ok o _ ho
  rw [hg] at h1
  simp at h1
  subst h1
  exact ⟨g,cur,hg,hv,h2,h3,h4⟩
theorem Blk.cellD {g:Nat} {cur:Array Value} {e:TypeId} (h:Blk w g cur e) {i:Nat} (hi:i<cur.size):w.cell? ⟨g,i,none⟩=some (cur.getD i undef):=by
  rw [h.cell];simp [hi]
theorem eref_read {o ver sz i j e:Nat} {xs:List AV} {fz:Bool} {v:Value} {t:TypeId} {p:Prop} {x:AV} (hr:Rel cx G σ w) (ho:σ[o]? =some (.arr e sz xs ver fz))
    (hx:R G (.eref o ver sz i j) v) (hi:i<xs.length) (hv:partV P t (xs.getD i .top).cells j=some (p,x)):∃ u,(Instr.loadAt t v).run P w= .ok u w∧R G x u:=by
  have hok:=hr.ok o _ ho
  obtain ⟨g,n,cap,hb,rfl⟩:=hx.eref_inv.2.2 hok.1.symm
  have hall:=hok.all hr
  rw [hb] at hall
  have hloc:(fz=true→RC G.C (.sl false sz xs) (G.b o)):=fun e=>by subst e;exact hok.2.2
  obtain ⟨_,⟨a,cap',hb',_⟩,_⟩:=hok
  rw [hb] at hb'
  simp at hb'
  obtain ⟨_,rfl,_⟩:=hb'
  have key:∃ f:Nat→Value,(∀ k,k<(flat xs).length→w.cell? ⟨g,k,none⟩=some (f k))∧(∀ k,k<(flat xs).length→(f k).oneCell'=true)∧
    (∀ k,k<(flat xs).length→RC G.C ((flat xs).getD k .top) (f k))∧∀ x∈xs,x.cells.length=sz:=by
    cases fz with
    |true=>
     have h:=hloc rfl
     rw [hb] at h
     cases h with
     |nil=>exact ⟨fun _=>undef,fun k hk=>absurd hk (by simp [flat]),fun k hk=>absurd hk (by simp [flat]),fun k hk=>absurd hk (by simp [flat]),fun x hx=>absurd hx (by simp)⟩
     |sl _ _ _ _ _ _ f _ _ _ hw hC h1 hR=>exact ⟨f,fun k hk=>hr.cell _ _ _ (by simpa using hC k hk),h1,hR,hw⟩
    |false=>
     have h3:=(hr.ok o _ ho).2.2
     simp only [Bool.false_eq_true,if_false] at h3
     rcases h3 with ⟨rfl,_⟩|⟨g',cap,cur,ha⟩
     ·simp at hi
     ·have:=ha.v
      rw [hb] at this
      simp at this
      obtain ⟨rfl,_⟩:=this
      refine ⟨fun k=>cur.getD k undef,fun k hk=>ha.blk.cellD ?_,ha.one,ha.rel,ha.wid⟩
      rw [flat_length ha.wid] at hk
      rw [ha.size]
      exact Nat.lt_of_lt_of_le hk (Nat.mul_le_mul_right _ ha.le)
  obtain ⟨f,hf,h1,hR,hw⟩:=key
  have hxw:=hw _ (getD_mem' hi)
  have hfl:=flat_length hw
  refine loadAt_sound (P:=P) (w:=w) (G:=G) (b:=g) (o0:=i*sz) (off:=j) (f:=fun k=>f (i*sz+k)) (cs:=(xs.getD i .top).cells) (t:=t) (p:=p) ?_ ?_ ?_ hv
  ·intro k hk;exact hf _ (by rw [hfl];exact idx_lt hi (by omega))
  ·intro k hk;exact h1 _ (by rw [hfl];exact idx_lt hi (by omega))
  ·intro k hk
   have:=hR (i*sz+k) (by rw [hfl];exact idx_lt hi (by omega))
   rw [flat_getD hw i k hi (by omega)] at this
   exact .clo _ _ this
theorem getD_any {xs:List AV} {i:Nat} (d:AV) (h:i<xs.length):xs.getD i d=xs.getD i .top:=by simp [List.getD,h]
theorem loadV_sound {jk:TypeId→AV} {t:TypeId} {x y:AV} {v:Value} {p:Prop} (hr:Rel cx G σ w) (hx:R G x v) (h:loadV P jk σ t x=some (p,y)) (hp:p):
    ∃ u,(Instr.loadAt t v).run P w= .ok u w∧R G y u:=by
  unfold loadV at h
  split at h
  ·rename_i o off
   split at h
   ·rename_i t' cs ho
    obtain ⟨g,cur,_,rfl,hblk,hsz,hc⟩:=box_of hr ho hx
    have:=loadAt_sound (P:=P) (w:=w) (G:=G) (b:=g) (o0:=0) (off:=off) (f:=fun k=>cur.getD k undef) (cs:=cs) (t:=t) (p:=p) (x:=y)
      (fun i hi=>by rw [Nat.zero_add];exact hblk.cellD (by omega)) (fun i hi=>(hc i hi).2) (fun i hi=>(hc i hi).1) h
    simpa using this
   ·cases h
  ·rename_i o ver sz i j
   split at h
   ·rename_i e sz' xs ver' fz ho
    split at h
    ·rename_i hv
     obtain ⟨rfl,rfl⟩:=hv
     split at h
     ·rename_i p' x' hpv
      cases h
      rw [getD_any _ hp.1] at hpv
      exact eref_read hr ho hx hp.1 hpv
     ·cases h
    ·cases h
   ·cases h
  ·rename_i x' j
   cases hx.sref_inv with
   |sref _ _ b off f hC h1 hR=>
    exact loadAt_sound (P:=P) (w:=w) (G:=G) (b:=b) (o0:=off) (off:=j) (f:=f) (cs:=x'.cells) (t:=t) (p:=p) (x:=y)
      (fun i hi=>hr.cell _ _ _ (hC i hi)) h1 (fun i hi=> .clo _ _ (hR i hi)) h
  ·cases h
theorem eref_now {o ver sz sz' i j:Nat} {xs:List AV} {v:Value} (hr:Rel cx G σ w) (hg:getObj? σ o ver=some (sz',xs)) (hx:R G (.eref o ver sz i j) v):
    ∃ g n cap,G.b o= .slice (some ⟨g,0,none⟩) n cap∧v= .pointer (some ⟨g,i*sz+j,none⟩)∧ver=G.ver o:=by
  unfold getObj? at hg
  cases ho:σ[o]? with
  |none=>rw [ho] at hg;cases hg
  |some ob=>
   rw [ho] at hg
   cases ob with
   |gone=>cases hg
   |box t cs=>cases hg
   |map es=>cases hg
   |arr e sz'' xs' ver' fz=>
    simp only at hg
    split at hg
    ·rename_i hv
     have hok:=hr.ok o _ ho
     have e1:ver=G.ver o:=hv.trans hok.1.symm
     obtain ⟨g,n,cap,h1,h2⟩:=hx.eref_inv.2.2 e1
     exact ⟨g,n,cap,h1,h2,e1⟩
    ·cases hg
theorem shiftV_sound {n:Nat} {x y:AV} {v:Value} {p:Prop} (hr:Rel cx G σ w) (hx:R G x v) (h:shiftV σ n x=some (p,y)):
    ∃ b o,v= .pointer (some ⟨b,o,none⟩)∧R G y (.pointer (some ⟨b,o+n,none⟩)):=by
  unfold shiftV at h
  split at h
  ·cases h
   obtain ⟨ho,g,hg,rfl⟩:=hx.ref_inv
   exact ⟨g,_,rfl,.ref _ _ g ho hg⟩
  ·split at h
   ·rename_i hg
    cases h
    obtain ⟨g,n',cap,h1,rfl,h3⟩:=eref_now hr hg hx
    have hi:=hx.eref_inv
    exact ⟨g,_,rfl,.eref _ _ _ _ _ _ hi.1 hi.2.1 (fun _=>⟨g,n',cap,h1,by rw [Nat.add_assoc]⟩) ⟨_,rfl⟩⟩
   ·cases h
  ·cases h
   cases hx.sref_inv with
   |sref _ _ b off f hC h1 hR=>exact ⟨b,_,rfl,by rw [Nat.add_assoc];exact .clo _ _ (.sref _ _ b off f hC h1 hR)⟩
  ·cases h
theorem szT_info {t:TypeId} (h:szT P t≠0):(sizeOf t).run P w= .ok (szT P t) w:=by
  unfold szT at h ⊢
  cases hi:P.info? t with
  |none=>rw [hi] at h;exact absurd rfl h
  |some i=>simp [sizeOf,typeInfo,hi]
theorem fieldT_run {s:TypeId} {fld ft off:Nat} (h:fieldT P s fld=some (ft,off)):∃ (fields:Array Field) (fd:Field),P.underlying s=some (.struct fields)∧fields[fld]? =some fd∧fd.type=ft∧fd.offset=off:=by
  unfold fieldT at h
  split at h
  ·rename_i fields hs
   simp only [Option.map_eq_some_iff,Prod.mk.injEq] at h
   obtain ⟨fd,h1,h2,h3⟩:=h
   exact ⟨fields,fd,hs,h1,h2,h3⟩
  ·cases h
theorem fieldAddrV_sound {s:TypeId} {x y:AV} {v:Value} {fld:Nat} {p:Prop} (hr:Rel cx G σ w) (hx:R G x v) (h:fieldAddrV P σ s x fld=some (p,y)):
    ∃ u,(Instr.fieldAt s v fld).run P w= .ok u w∧R G y u:=by
  unfold fieldAddrV at h
  split at h
  ·rename_i ft off hf
   obtain ⟨fields,fd,hs,hfd,rfl,rfl⟩:=fieldT_run hf
   split at h
   ·cases h
   ·rename_i hz
    obtain ⟨b,o,rfl,hy⟩:=shiftV_sound hr hx h
    refine ⟨_,?_,hy⟩
    simp [Instr.fieldAt,run_und hs,hfd,Instr.sureAddr,fieldPlace,szT_info hz,hz,Addr.add_plain]
  ·cases h
theorem fieldV_sound {s:TypeId} {x y:AV} {v:Value} {fld:Nat} {p:Prop} (hx:R G x v) (h:fieldV P s x fld=some (p,y)):
    ∃ u,(Instr.field s v fld).run P w= .ok u w∧R G y u:=by
  unfold fieldV at h
  split at h
  ·rename_i ft off cs hf
   obtain ⟨fields,fd,hs,hfd,rfl,rfl⟩:=fieldT_run hf
   obtain ⟨vs,rfl,hl,h1,hh⟩:=hx.agg_inv
   obtain ⟨u,h2,h3⟩:=partV_sound (P:=P) (w:=w) hl h1 hh h
   exact ⟨u,by simp [Instr.field,run_und hs,hfd,asAgg,h2],h3⟩
  ·cases h
theorem sl_len {full:Bool} {sz:Nat} {xs:List AV} {v:Value} {C:Nat→Nat→Option Value} (h:RC C (.sl full sz xs) v):∃ a cap,v= .slice a xs.length cap:=by
  cases h with
  |nil _ _ a=>exact ⟨a,0,rfl⟩
  |sl _ _ _ b off cap f=>exact ⟨_,cap,rfl⟩
theorem indexAddrV_sound {jk:TypeId→AV} {t:TypeId} {x ix y:AV} {v i:Value} {p:Prop} (hr:Rel cx G σ w) (hx:R G x v) (hi:R G ix i) (h:indexAddrV P jk σ t x ix=some (p,y)) (hp:p):
    ∃ u,(Instr.indexAt t v i).run P w= .ok u w∧R G y u:=by
  unfold indexAddrV at h
  split at h
  ·rename_i k n e ht
   rw [hi.lit_inv]
   split at h
   ·rename_i full sz xs
    split at h
    ·rename_i hsz
     obtain ⟨rfl,hpos⟩:=hsz
     cases h
     obtain ⟨h0,hn⟩:=hp
     cases hx.sl_inv with
     |nil=>simp at hn;omega
     |sl _ _ _ b off cap f hc hm hf hw hC h1 hR=>
      have hlt:n.toNat<xs.length:=by omega
      have hs:=sref_of_sl (G:=G) hlt hw hC h1 hR
      rw [←getD_any (jk e) hlt] at hs
      refine ⟨_,?_,.clo _ _ hs⟩
      simp [Instr.indexAt,asIntOf,run_und ht,h0,hn,szT_info (Nat.ne_of_gt hpos),Addr.add_plain]
    ·cases h
   ·rename_i o ver
    split at h
    ·rename_i sz xs hg
     split at h
     ·rename_i hsz
      obtain ⟨rfl,hpos⟩:=hsz
      cases h
      obtain ⟨h0,hn⟩:=hp
      obtain ⟨e',fz,ho,rfl,hok⟩:=R.of_getObj hr hg hx
      have hlt:n.toNat<xs.length:=by omega
      have hinv:=hx.arr_inv
      have hver:ver=G.ver o:=hok.1.symm
      have hb:∃ b cap,G.b o= .slice (some ⟨b,0,none⟩) xs.length cap:=by
        obtain ⟨a,cap,hb,hg⟩:=hok.2.1
        obtain ⟨g,rfl⟩:=hg (by intro e;rw [e] at hlt;simp at hlt)
        exact ⟨g,cap,hb⟩
      obtain ⟨b,cap,hb⟩:=hb
      refine ⟨.pointer (some ⟨b,n.toNat*szT P e,none⟩),?_,.eref _ _ _ _ _ _ hinv.1 hinv.2.1 (fun _=>⟨b,_,cap,hb,rfl⟩) ⟨_,rfl⟩⟩
      simp [Instr.indexAt,asIntOf,run_und ht,h0,hn,szT_info (Nat.ne_of_gt hpos),Addr.add_plain,hb]
     ·cases h
    ·cases h
   ·rename_i o ver sz lo hi
    split at h
    ·rename_i sz' xs hg
     split at h
     ·rename_i hsz
      obtain ⟨rfl,hpos,rfl⟩:=hsz
      cases h
      obtain ⟨h0,hn⟩:=hp
      have hinv:=hx.sub_inv
      have hver:ver=G.ver o:=by
        unfold getObj? at hg
        split at hg
        ·rename_i e' sz'' xs' ver' fz ho
         split at hg
         ·rename_i hv;subst hv;exact ((hr.ok o _ ho).1).symm
         ·cases hg
        ·cases hg
      obtain ⟨hle,⟨rfl,rfl,_⟩|⟨g,n',cap,off,h1,h2,h3,hb,rfl,h4⟩⟩:=hinv.2.2 hver
      ·simp at hn;omega
      ·have hlt:lo<cap:=by omega
       refine ⟨.pointer (some ⟨g,(lo+n.toNat)*szT P e,none⟩),?_,.eref _ _ _ _ _ _ hinv.1 hinv.2.1 (fun _=>⟨g,n',cap,hb,rfl⟩) ⟨_,rfl⟩⟩
       rw [h4 hlt]
       have hn':n<((hi - lo:Nat):Int):=hn
       simp [Instr.indexAt,asIntOf,run_und ht,h0,hn',szT_info (Nat.ne_of_gt hpos),Addr.add_plain,Nat.add_mul]
     ·cases h
    ·cases h
   ·rename_i o m
    split at h
    ·rename_i hsz
     cases h
     obtain ⟨h0,hn⟩:=hp
     obtain ⟨ho,g,cap,hb,h1,h2,rfl⟩:=hx.bsl_inv
     refine ⟨.pointer (some ⟨g,n.toNat,none⟩),?_,.ref _ _ g ho hb⟩
     have hn':n<(m:Int):=hn
     have hz:szT P e≠0:=by omega
     simp [Instr.indexAt,asIntOf,run_und ht,h0,hn',szT_info hz,Addr.add_plain,hsz]
    ·split at h
     ·cases h
     ·rename_i hz
      cases h
      obtain ⟨h0,hn⟩:=hp
      obtain ⟨ho,g,cap,hb,h1,h2,rfl⟩:=hx.bsl_inv
      refine ⟨.pointer (some ⟨g,n.toNat*szT P e,none⟩),?_,.ref _ _ g ho hb⟩
      have hn':n<(m:Int):=hn
      simp [Instr.indexAt,asIntOf,run_und ht,h0,hn',szT_info hz,Addr.add_plain]
   ·cases h
  ·rename_i k n len e ht
   rw [hi.lit_inv]
   split at h
   ·cases h
   ·rename_i hz
    split at h
    ·cases h
     obtain ⟨h0,hn⟩:=hp
     obtain ⟨ho,g,hg,rfl⟩:=hx.ref_inv
     refine ⟨_,?_,.ref _ _ g ho hg⟩
     simp [Instr.indexAt,asIntOf,run_und ht,h0,hn,szT_info hz,Addr.add_plain,Instr.sureAddr]
    ·cases h
     obtain ⟨h0,hn⟩:=hp
     cases hx.sref_inv with
     |sref _ _ b off f hC h1 hR=>
      refine ⟨_,?_,.clo _ _ (.sref _ _ b off f hC h1 hR)⟩
      simp [Instr.indexAt,asIntOf,run_und ht,h0,hn,szT_info hz,Addr.add_plain,Instr.sureAddr,Nat.add_assoc]
    ·cases h
  ·cases h
theorem strAt_get {s:ByteArray} {i:Nat} (hi:i<s.size):s[i]? =some s[i]∧((s[i]).toNat:Int)=strAt s i:=by
  refine ⟨by simp [hi],?_⟩
  have hd:i<s.data.toList.length:=by simpa using hi
  simp only [strAt]
  rw [getD_elem _ _ hd]
  rfl
theorem indexV_sound {t:TypeId} {x ix y:AV} {v i:Value} {p:Prop} (hx:R G x v) (hi:R G ix i) (h:indexV P t x ix=some (p,y)) (hp:p):
    ∃ u,(Instr.index t v i).run P w= .ok u w∧R G y u:=by
  unfold indexV at h
  split at h
  ·rename_i k n ht
   rw [hi.lit_inv]
   split at h
   ·rename_i s
    cases h
    obtain ⟨h0,hn⟩:=hp
    rw [hx.lit_inv]
    have hlt:n.toNat<s.size:=by omega
    obtain ⟨e1,e2⟩:=strAt_get hlt
    refine ⟨_,?_,R.lit _⟩
    simp [Instr.index,asIntOf,run_und ht,h0,e1,←e2]
   ·cases h
  ·rename_i k n len e ht
   rw [hi.lit_inv]
   split at h
   ·cases h
   ·rename_i hz
    split at h
    ·rename_i cs
     split at h
     ·rename_i q y' hq
      cases h
      obtain ⟨h0,hn,_⟩:=hp
      obtain ⟨vs,rfl,hl,h1,hh⟩:=hx.agg_inv
      obtain ⟨u,h2,h3⟩:=partV_sound (P:=P) (w:=w) hl h1 hh hq
      exact ⟨u,by simp [Instr.index,asIntOf,run_und ht,h0,hn,szT_info hz,h2],h3⟩
     ·cases h
    ·cases h
  ·cases h
theorem bnd_sound {d:Nat} {x:Option AV} {v:Option Value} {i:Int} (hx:∀ y,x=some y→∃ u,v=some u∧R G y u) (hn:x=none→v=none)
    (h:bndV d x=some i):(v=none∧i=d)∨∃ k,v=some (.int k i):=by
  unfold bndV at h
  split at h
  ·cases h;exact .inl ⟨hn rfl,rfl⟩
  ·cases h
   obtain ⟨u,h1,h2⟩:=hx _ rfl
   rw [h2.lit_inv] at h1
   exact .inr ⟨_,h1⟩
  ·cases h
def OptR (G:Gh) (x:Option AV) (v:Option Value):Prop:=(∀ y,x=some y→∃ u,v=some u∧R G y u)∧(x=none→v=none)
theorem run_bound {k:IntKind} {i:Int} {y:Nat} {c:BoundsCode} (h0:0≤i) (h1:i≤(y:Int)):(Instr.sliceBound (.int k i) y c).run P w= .ok i.toNat w:=by
  simp [Instr.sliceBound,asIntOf,h0,h1]
theorem run_bounds {isS:Bool} {len cap:Nat} {lo hi:Option AV} {vlo vhi:Option Value} {l h:Int} (hlo:OptR G lo vlo) (hhi:OptR G hi vhi)
    (el:bndV 0 lo=some l) (eh:bndV len hi=some h) (h0:0≤l) (h1:l≤h) (h2:h≤(cap:Int)):
    (Instr.sliceBounds isS len cap vlo vhi none).run P w= .ok (l.toNat,h.toNat,cap) w:=by
  have hh0:0≤h:=by omega
  rcases bnd_sound hlo.1 hlo.2 el with ⟨rfl,rfl⟩|⟨kl,rfl⟩<;>rcases bnd_sound hhi.1 hhi.2 eh with ⟨rfl,rfl⟩|⟨kh,rfl⟩
  ·simp [Instr.sliceBounds]
  ·simp [Instr.sliceBounds,run_bound hh0 h2]
  ·have h1':l≤((len:Nat):Int):=h1
   simp [Instr.sliceBounds,run_bound h0 h1']
  ·have h1':l≤((h.toNat:Nat):Int):=by omega
   simp [Instr.sliceBounds,run_bound h0 h1',run_bound hh0 h2]
theorem run_bounds3 {isS:Bool} {len cap:Nat} {lo hi:Option AV} {vlo vhi:Option Value} {l h m:Int} {km:IntKind} (hlo:OptR G lo vlo) (hhi:OptR G hi vhi) (hs:hi.isSome=true)
    (el:bndV 0 lo=some l) (eh:bndV len hi=some h) (h0:0≤l) (h1:l≤h) (h2:h≤m) (h3:m≤(cap:Int)):
    (Instr.sliceBounds isS len cap vlo vhi (some (.int km m))).run P w= .ok (l.toNat,h.toNat,m.toNat) w:=by
  have hh0:0≤h:=by omega
  have hm0:0≤m:=by omega
  have h2':h≤((m.toNat:Nat):Int):=by omega
  have h1':l≤((h.toNat:Nat):Int):=by omega
  obtain ⟨kh,rfl⟩:∃ k,vhi=some (.int k h):=by
    rcases bnd_sound hhi.1 hhi.2 eh with ⟨e,_⟩|h
    ·cases hi with
     |none=>cases hs
     |some y=>obtain ⟨u,hu,_⟩:=hhi.1 y rfl;rw [e] at hu;cases hu
    ·exact h
  rcases bnd_sound hlo.1 hlo.2 el with ⟨rfl,rfl⟩|⟨kl,rfl⟩
  ·simp [Instr.sliceBounds,run_bound hm0 h3,run_bound hh0 h2']
  ·simp [Instr.sliceBounds,run_bound hm0 h3,run_bound hh0 h2',run_bound h0 h1']
theorem getD_take' {xs:List AV} {n i:Nat} (h:i<n):(xs.take n).getD i .top=xs.getD i .top:=by simp [List.getD,h]
theorem getD_drop' {xs:List AV} {n i:Nat}:(xs.drop n).getD i .top=xs.getD (n+i) .top:=by simp [List.getD]
theorem sl_part {sz:Nat} {xs:List AV} {b off cap:Nat} {f:Nat→Value} {l h m:Nat} {full':Bool} (hl:l≤h) (hh:h≤xs.length) (hhm:h≤m) (hmc:m≤cap) (hm:cap≤maxLen)
    (hw:∀ x∈xs,x.cells.length=sz) (hC:∀ j,j<(flat xs).length→G.C b (off+j)=some (f j)) (h1:∀ j,j<(flat xs).length→(f j).oneCell'=true)
    (hR:∀ j,j<(flat xs).length→RC G.C ((flat xs).getD j .top) (f j)) (hf:full'=true→m=h):
    RC G.C (.sl full' sz ((xs.take h).drop l)) (.slice (some (if m=l then ⟨b,off,none⟩ else ⟨b,off+l*sz,none⟩)) (h - l) (m - l)):=by
  have hlen:((xs.take h).drop l).length=h - l:=by simp;omega
  have hw':∀ x∈(xs.take h).drop l,x.cells.length=sz:=fun x hx=>hw x (List.mem_of_mem_take (List.mem_of_mem_drop hx))
  have hfl:=flat_length hw
  have hfl':=flat_length hw'
  by_cases e:m=l
  ·have e2:h - l=0:=by omega
   have e3:(xs.take h).drop l=[]:=List.eq_nil_of_length_eq_zero (by omega)
   rw [if_pos e,e2,e3,show m - l=0 by omega]
   exact empty_sl
  ·rw [if_neg e,←hlen]
   have key:∀ j,j<(flat ((xs.take h).drop l)).length→l*sz+j<(flat xs).length∧(flat ((xs.take h).drop l)).getD j .top=(flat xs).getD (l*sz+j) .top:=by
     intro j hj
     rw [hfl',hlen] at hj
     have hsz:0<sz:=by
       rcases Nat.eq_zero_or_pos sz with h|h
       ·rw [h] at hj;simp at hj
       ·exact h
     have hd:j / sz<h - l:=by rw [Nat.div_lt_iff_lt_mul hsz];exact hj
     have hr:=Nat.mod_lt j hsz
     have ej:j / sz*sz+j % sz=j:=by rw [Nat.mul_comm];exact Nat.div_add_mod j sz
     have ej2:l*sz+j=(l+j / sz)*sz+j % sz:=by rw [Nat.add_mul];omega
     refine ⟨by rw [hfl,ej2];exact idx_lt (by omega) hr,?_⟩
     rw [ej2,flat_getD hw _ _ (by omega) hr]
     conv=>lhs;rw [←ej]
     rw [flat_getD hw' _ _ (by rw [hlen];exact hd) hr,getD_drop',getD_take' (by omega)]
   exact .sl full' sz _ b (off+l*sz) (m - l) (fun j=>f (l*sz+j)) (by omega) (by omega) (fun hfu=>by have:=hf hfu;omega) hw'
     (fun j hj=>by rw [Nat.add_assoc];exact hC _ (key j hj).1) (fun j hj=>h1 _ (key j hj).1) (fun j hj=>by rw [(key j hj).2];exact hR _ (key j hj).1)
theorem slV_sound {t e:TypeId} {full:Bool} {sz:Nat} {xs:List AV} {y:AV} {v:Value} {lo hi mx:Option AV} {vlo vhi vmx:Option Value} {p:Prop} (ht:P.underlying t=some (.slice e)) (hx:RC G.C (.sl full sz xs) v) (hlo:OptR G lo vlo) (hhi:OptR G hi vhi) (hmx:OptR G mx vmx)
    (h:slV P e full sz xs lo hi mx=some (p,y)) (hp:p):∃ u,(Instr.sliceAt t v vlo vhi vmx).run P w= .ok u w∧R G y u:=by
  unfold slV at h
  split at h
  ·rename_i hsz
   obtain ⟨rfl,hpos⟩:=hsz
   split at h
   ·rename_i l h' el eh
    cases h
    obtain ⟨h0,h1,h2⟩:=hp
    have hmn:vmx=none:=hmx.2 rfl
    subst hmn
    cases hx with
    |nil _ _ a=>
     have e1:h'=0:=by simp at h2;omega
     have e2:l=0:=by omega
     have hb:=run_bounds (P:=P) (w:=w) (isS:=true) (cap:=0) hlo hhi el eh h0 h1 (by simp [e1])
     simp only [List.length_nil] at hb
     cases a with
     |none=>
      refine ⟨.slice none 0 0,?_,?_⟩
      ·simp [Instr.sliceAt,Instr.slice,run_und ht,hb,szT_info (Nat.ne_of_gt hpos),e1,e2]
      ·simp only [List.take_nil,List.drop_nil];exact .clo _ _ (.nil _ _ _)
     |some a=>
      refine ⟨.slice (some (a.add 0)) 0 0,?_,?_⟩
      ·simp [Instr.sliceAt,Instr.slice,run_und ht,hb,szT_info (Nat.ne_of_gt hpos),e1,e2,Addr.add]
      ·simp only [List.take_nil,List.drop_nil];exact .clo _ _ (.nil _ _ _)
    |sl _ _ _ b off cap f hc hm hf hw hC h1' hR=>
     have hb:=run_bounds (P:=P) (w:=w) (isS:=true) (cap:=cap) hlo hhi el eh h0 h1 (by omega)
     have hpart:=sl_part (G:=G) (l:=l.toNat) (h:=h'.toNat) (m:=cap) (full':=full&&decide (h'=(xs.length:Int))) (by omega) (by omega) (by omega) (Nat.le_refl _) hm hw hC h1' hR
       (fun hfu=>by simp at hfu;have:=hf hfu.1;omega)
     refine ⟨_,?_,.clo _ _ hpart⟩
     simp [Instr.sliceAt,Instr.slice,run_und ht,hb,szT_info (Nat.ne_of_gt hpos),Addr.add_plain]
     split<;>rfl
   ·rename_i k m l h' el eh
    split at h
    ·rename_i hs
     cases h
     obtain ⟨h0,h1,h2,h3⟩:=hp
     obtain ⟨vm,hvm,hrm⟩:=hmx.1 _ rfl
     rw [hrm.lit_inv] at hvm
     subst hvm
     cases hx with
     |nil _ _ a=>
      have e0:m=0:=by simp at h3;omega
      have e1:h'=0:=by omega
      have e2:l=0:=by omega
      have hb:=run_bounds3 (P:=P) (w:=w) (isS:=true) (cap:=0) (km:=k) hlo hhi hs el eh h0 h1 h2 (by simp [e0])
      simp only [List.length_nil] at hb
      subst e0 e1 e2
      cases a with
      |none=>
       refine ⟨.slice none 0 0,?_,?_⟩
       ·simp [Instr.sliceAt,Instr.slice,run_und ht,hb,szT_info (Nat.ne_of_gt hpos)]
       ·simp only [List.take_nil,List.drop_nil];exact .clo _ _ (.nil _ _ _)
      |some a=>
       refine ⟨.slice (some (a.add 0)) 0 0,?_,?_⟩
       ·simp [Instr.sliceAt,Instr.slice,run_und ht,hb,szT_info (Nat.ne_of_gt hpos),Addr.add]
       ·simp only [List.take_nil,List.drop_nil];exact .clo _ _ (.nil _ _ _)
     |sl _ _ _ b off cap f hc hm hf hw hC h1' hR=>
      have hb:=run_bounds3 (P:=P) (w:=w) (isS:=true) (cap:=cap) (km:=k) hlo hhi hs el eh h0 h1 h2 (by omega)
      have hpart:=sl_part (G:=G) (l:=l.toNat) (h:=h'.toNat) (m:=m.toNat) (full':=decide (m=h')) (by omega) (by omega) (by omega) (by omega) hm hw hC h1' hR
        (fun hfu=>by simp at hfu;omega)
      refine ⟨_,?_,.clo _ _ hpart⟩
      simp [Instr.sliceAt,Instr.slice,run_und ht,hb,szT_info (Nat.ne_of_gt hpos),Addr.add_plain]
      split<;>rfl
    ·cases h
   ·cases h
  ·cases h
theorem subV_sound {t e:TypeId} {o ver sz base top:Nat} {y:AV} {v:Value} {lo hi mx:Option AV} {vlo vhi vmx:Option Value} {p:Prop} (ht:P.underlying t=some (.slice e)) (ho:o<G.n) (hver:ver≤G.ver o)
    (hx:SubOf (G.b o) sz base top v) (hlo:OptR G lo vlo) (hhi:OptR G hi vhi) (hmx:OptR G mx vmx)
    (h:subV P e o ver sz base top lo hi mx=some (p,y)) (hp:p):∃ u,(Instr.sliceAt t v vlo vhi vmx).run P w= .ok u w∧R G y u:=by
  unfold subV at h
  split at h
  ·rename_i l h' el eh
   split at h
   ·rename_i hsz
    obtain ⟨rfl,hpos⟩:=hsz
    cases h
    obtain ⟨h0,h1,h2⟩:=hp
    have hmn:vmx=none:=hmx.2 rfl
    subst hmn
    obtain ⟨hle,⟨rfl,rfl,a,hb0,rfl⟩|⟨g,n,cap,off,k1,k2,k3,hb0,rfl,k4⟩⟩:=hx
    ·have e1:h'=0:=by omega
     have e2:l=0:=by omega
     have hb:=run_bounds (P:=P) (w:=w) (isS:=true) (cap:=0) hlo hhi el eh h0 h1 (by simp [e1])
     simp only [Nat.sub_zero] at hb
     subst e1 e2
     refine ⟨.slice a 0 0,?_,.sub _ _ _ _ _ _ ho hver (fun _=>⟨Nat.le_refl _,.inl ⟨rfl,rfl,a,hb0,rfl⟩⟩) ⟨_,_,_,rfl⟩⟩
     simp [Instr.sliceAt,Instr.slice,run_und ht,hb,szT_info (Nat.ne_of_gt hpos)]
    ·have hb:=run_bounds (P:=P) (w:=w) (isS:=true) (cap:=cap - base) hlo hhi el eh h0 h1 (by omega)
     refine ⟨.slice (some ⟨g,if cap - base=l.toNat then off else off+l.toNat*szT P e,none⟩) (h'.toNat - l.toNat) (cap - base - l.toNat),?_,
       .sub _ _ _ _ _ _ ho hver (fun _=>⟨by omega,.inr ⟨g,n,cap,if cap - base=l.toNat then off else off+l.toNat*szT P e,by omega,k2,k3,hb0,?_,fun hlt=>?_⟩⟩) ⟨_,_,_,rfl⟩⟩
     ·simp [Instr.sliceAt,Instr.slice,run_und ht,hb,szT_info (Nat.ne_of_gt hpos),Addr.add_plain]
      split<;>rfl
     ·congr 1<;>omega
     ·rw [if_neg (by omega),k4 (by omega),Nat.add_mul]
   ·cases h
  ·cases h
theorem arr_subOf {o ver e sz:Nat} {xs:List AV} {v:Value} (hr:Rel cx G σ w) (ho:σ[o]? =some (.arr e sz xs ver false)) (hx:R G (.arr o ver) v):SubOf (G.b o) sz 0 xs.length v:=by
  have hok:=hr.ok o _ ho
  have hv:=hx.arr_inv.2.2 hok.1.symm
  subst hv
  have h3:=hok.2.2
  simp only [Bool.false_eq_true,if_false] at h3
  rcases h3 with ⟨rfl,a,ha⟩|⟨g,cap,cur,ha⟩
  ·exact ⟨Nat.le_refl _,.inl ⟨rfl,rfl,a,ha,ha⟩⟩
  ·exact ⟨Nat.zero_le _,.inr ⟨g,xs.length,cap,0,Nat.le_refl _,ha.le,ha.max,ha.v,ha.v,fun _=>by simp⟩⟩
theorem sliceV_sound {t:TypeId} {x y:AV} {v:Value} {lo hi mx:Option AV} {vlo vhi vmx:Option Value} {p:Prop} (hr:Rel cx G σ w) (hx:R G x v) (hlo:OptR G lo vlo) (hhi:OptR G hi vhi) (hmx:OptR G mx vmx)
    (h:sliceV P σ t x lo hi mx=some (p,y)) (hp:p):∃ u,(Instr.sliceAt t v vlo vhi vmx).run P w= .ok u w∧R G y u:=by
  unfold sliceV at h
  split at h
  ·rename_i s ht
   rw [hx.lit_inv]
   split at h
   ·rename_i l h' el eh
    cases h
    obtain ⟨h0,h1,h2⟩:=hp
    have hb:=run_bounds (P:=P) (w:=w) (isS:=false) hlo hhi el eh h0 h1 h2
    have hmn:vmx=none:=hmx.2 rfl
    subst hmn
    exact ⟨_,by simp [Instr.sliceAt,Instr.slice,run_und ht,hb],R.lit _⟩
   ·cases h
  ·rename_i e full sz xs ht
   exact slV_sound ht hx.sl_inv hlo hhi hmx h hp
  ·rename_i e o ver ht
   split at h
   ·rename_i e' sz xs ver' fz ho
    split at h
    ·rename_i hv
     subst hv
     have hinv:=hx.arr_inv
     split at h
     ·rename_i hf
      subst hf
      have hok:=hr.ok o _ ho
      have hv:=hinv.2.2 hok.1.symm
      subst hv
      exact slV_sound ht hok.2.2 hlo hhi hmx h hp
     ·rename_i hf
      have hf:fz=false:=by simpa using hf
      subst hf
      exact subV_sound ht hinv.1 hinv.2.1 (arr_subOf hr ho hx) hlo hhi hmx h hp
    ·cases h
   ·cases h
  ·rename_i e o ver sz a b ht
   split at h
   ·rename_i e' sz' xs ver' fz ho
    split at h
    ·rename_i hv
     obtain ⟨rfl,rfl⟩:=hv
     have hinv:=hx.sub_inv
     have hok:=hr.ok o _ ho
     split at h
     ·rename_i hf
      subst hf
      exact slV_sound ht (sub_rc (full:=false) hok.2.2 (hinv.2.2 hok.1.symm)) hlo hhi hmx h hp
     ·exact subV_sound ht hinv.1 hinv.2.1 (hinv.2.2 hok.1.symm) hlo hhi hmx h hp
    ·cases h
   ·cases h
  ·rename_i e ht
   rw [hx.lit_inv]
   split at h
   ·cases h
   ·rename_i hz
    split at h
    ·rename_i l h' el eh
     cases h
     obtain ⟨rfl,rfl⟩:=hp
     have hmn:vmx=none:=hmx.2 rfl
     subst hmn
     have hb:=run_bounds (P:=P) (w:=w) (isS:=true) (cap:=0) hlo hhi el eh (Int.le_refl _) (Int.le_refl _) (by simp)
     exact ⟨.slice none 0 0,by simp [Instr.sliceAt,Instr.slice,run_und ht,hb,szT_info hz],R.lit _⟩
    ·cases h
  ·rename_i e o n ht
   split at h
   ·rename_i hz
    split at h
    ·rename_i h' eh
     cases h
     obtain ⟨h0,h1⟩:=hp
     have hmn:vmx=none:=hmx.2 rfl
     subst hmn
     obtain ⟨ho,g,cap,hb0,hc1,hc2,rfl⟩:=hx.bsl_inv
     have hb:=run_bounds (P:=P) (w:=w) (isS:=true) (len:=n) (cap:=cap) hlo hhi (l:=0) rfl eh (Int.le_refl _) h0 (by omega)
     refine ⟨.slice (some ⟨g,0,none⟩) h'.toNat cap,?_,.bsl _ _ g cap ho hb0 (by omega) hc2⟩
     simp [Instr.sliceAt,Instr.slice,run_und ht,hb,szT_info (show szT P e≠0 by omega),Addr.add_plain]
    ·cases h
   ·cases h
  ·rename_i m e o ht
   split at h
   ·cases h
   ·rename_i hz
    split at h
    ·cases h
     obtain ⟨ho,g,hb,rfl⟩:=hx.ref_inv
     have e1:=hlo.2 rfl
     have e2:=hhi.2 rfl
     have e3:=hmx.2 rfl
     subst e1 e2 e3
     refine ⟨.slice (some ⟨g,0,none⟩) m m,?_,.bsl _ _ g m ho hb (Nat.le_refl _) (by unfold maxLen;omega)⟩
     simp [Instr.sliceAt,run_und ht,Instr.sureAddr,Instr.sliceBounds,szT_info (show szT P e≠0 by omega),Addr.add_plain]
    ·cases h
  ·cases h
end Go.Fw

namespace Go.Fw
open Go
set_option linter.unusedSectionVars false
variable [TB]
variable {P:Program} {E:Env} {cx:Cx} {G:Gh} {σ:List AObj} {w:World}
theorem arithV_sound {wr:Bool} {k:IntKind} {n:Int} {p:Prop} {y:AV} (h:arithV wr k n=some (p,y)) (hp:p):R G y (.int k (k.wrap n)):=by
  unfold arithV at h
  split at h
  ·cases h
   rw [IntWalk.i64_in n hp]
   exact R.lit _
  ·cases h
   exact R.lit _
theorem toList_data (s:ByteArray):s.toList=s.data.toList:=by
  have loop:∀ (n i:Nat) (acc:List UInt8),n=s.size - i→i≤s.size→ByteArray.toList.loop s i acc=acc.reverse++s.data.toList.drop i:=by
    intro n
    induction n with
    |zero=>
     intro i acc hn hi
     have e:i=s.size:=by omega
     unfold ByteArray.toList.loop
     rw [if_neg (by omega)]
     have hd:s.data.toList.drop i=[]:=by
       apply List.drop_eq_nil_of_le
       show s.data.toList.length≤i
       simp;rw [e];exact Nat.le_refl _
     rw [hd];simp
    |succ n ih=>
     intro i acc hn hi
     have hlt:i<s.size:=by omega
     unfold ByteArray.toList.loop
     rw [if_pos hlt,ih (i+1) _ (by omega) (by omega)]
     have hl:i<s.data.toList.length:=by simpa using hlt
     rw [List.drop_eq_getElem_cons hl]
     have e:s.get! i=s.data.toList[i]:=by
       simp only [ByteArray.get!]
       exact getElem!_pos s.data i hlt
     simp [e]
  have:=loop (s.size - 0) 0 [] (by omega) (by omega)
  simpa [ByteArray.toList] using this
theorem intBin_sound {wr:Bool} {op:BinOp} {k:IntKind} {a b:Int} {p:Prop} {y:AV} (h:intBinV wr op k a b=some (p,y)) (hp:p)
    (hop:op≠ .shl∧op≠ .shr) {t:TypeId}:∃ v,(binOp op t (.int k a) (.int k b)).run P w= .ok v w∧R G y v:=by
  have hb:binOp op t (.int k a) (.int k b)=(match op with
    |.add|.sub|.mul=>Op.intArith op k a b
    |.quo|.rem=>Op.intDiv op k a b
    |.and|.or|.xor|.andNot=>Op.intBits op k a b
    |_=>Op.intCmp op a b):=by
    cases op<;>first|exact absurd rfl hop.1|exact absurd rfl hop.2|simp [binOp]
  rw [hb]
  unfold intBinV at h
  cases op<;>simp only at h ⊢
  case add=>exact ⟨_,by simp [Op.intArith],arithV_sound h hp⟩
  case sub=>exact ⟨_,by simp [Op.intArith],arithV_sound h hp⟩
  case mul=>exact ⟨_,by simp [Op.intArith],arithV_sound h hp⟩
  case quo=>
    split at h
    ·cases h
     refine ⟨.int .i64 (IntKind.i64.wrap (a.tdiv b)),by simp [Op.intDiv,hp.1],?_⟩
     rw [IntWalk.i64_in _ hp.2]
     exact R.lit _
    ·cases h
     have hp':b≠0:=hp
     exact ⟨.int k (k.wrap (a.tdiv b)),by simp [Op.intDiv,hp'],R.lit _⟩
  case rem=>cases h;have hp':b≠0:=hp;exact ⟨.int k (a.tmod b),by simp [Op.intDiv,hp'],R.lit _⟩
  case and=>cases h;exact ⟨.int k (andI k a b),rfl,R.lit _⟩
  case or=>cases h;exact ⟨.int k (orI k a b),rfl,R.lit _⟩
  case xor=>cases h;exact ⟨.int k (xorI k a b),rfl,R.lit _⟩
  case eql=>cases h;exact ⟨_,by simp [Op.intCmp],R.lit _⟩
  case neq=>cases h;exact ⟨_,by simp [Op.intCmp],R.lit _⟩
  case lss=>cases h;exact ⟨_,by simp [Op.intCmp],R.lit _⟩
  case leq=>cases h;exact ⟨_,by simp [Op.intCmp],R.lit _⟩
  case gtr=>cases h;exact ⟨_,by simp [Op.intCmp],R.lit _⟩
  case geq=>cases h;exact ⟨_,by simp [Op.intCmp],R.lit _⟩
  all_goals cases h
theorem strBin_sound {op:BinOp} {a b:ByteArray} {p:Prop} {y:AV} (h:strBinV op a b=some (p,y)) (hp:p):
    ∃ v,(Op.stringOp op a b).run P w= .ok v w∧R G y v:=by
  unfold strBinV at h
  cases op<;>simp only at h
  case add=>
    cases h
    refine ⟨_,?_,R.lit _⟩
    have hp': ¬ (9223372036854775807<((a.size+b.size:Nat):Int)):=by
      have:a.size+b.size≤9223372036854775807:=hp
      omega
    simp [Op.stringOp]
    omega
  all_goals first|(cases h;done)|(cases h;exact ⟨_,by simp [Op.stringOp,toList_data,eqS,ltS],R.lit _⟩)
theorem isPtr_sound {x:AV} {v:Value} (hx:R G x v) (h:isPtr x=true):∃ a,v= .pointer (some a):=by
  cases x with
  |ref o off=>obtain ⟨_,g,_,rfl⟩:=hx.ref_inv;exact ⟨_,rfl⟩
  |sref y j=>cases hx.sref_inv with|sref _ _ b off f=>exact ⟨_,rfl⟩
  |_=>cases h
theorem equal_step (t:TypeId) (u v:Value):Op.equal t u v=Op.equalIn (9999+1) t u v:=rfl
theorem isNilP_sound {x:AV} {v:Value} (hx:R G x v) (h:isNilP x=true):v= .pointer none:=by
  unfold isNilP at h
  split at h
  ·exact hx.lit_inv
  ·cases h
theorem scEq_sound {k:Nat} {x y:AV} {u v:Value} {b:Bool} {t:TypeId} {d:Nat} (hx:R G x u) (hy:R G y v) (hk:kindT P t=some k) (h:scEq k x y=some b):
    (Op.equalIn (d+1) t u v).run P w= .ok b w:=by
  unfold scEq at h
  split at h
  ·rename_i k1 a k2 c
   split at h
   ·rename_i hkk
    subst hkk
    cases h
    rw [hx.lit_inv,hy.lit_inv]
    unfold kindT at hk
    split at hk<;>first|(cases hk;done)|skip
    rename_i k' hu
    exact run_equalIn_int w d t _ k' _ _ hu
   ·cases h
  ·cases h
   rw [hx.lit_inv,hy.lit_inv]
   unfold kindT at hk
   split at hk<;>first|(cases hk;done)|skip
   rename_i hu
   rw [run_equalIn_string w d t _ _ hu,toList_data,toList_data]
   rfl
  ·cases h
   rw [hx.lit_inv,hy.lit_inv]
   unfold kindT at hk
   split at hk<;>first|(cases hk;done)|skip
   rename_i hu
   exact run_equalIn_bool' w d t _ _ hu
  ·cases h
theorem kindT_agg {t:TypeId} {k:Nat} (h:kindT P t=some k):aggT P t=some false:=by
  unfold kindT at h
  unfold aggT
  split at h<;>first|(cases h;done)|(rename_i hu;rw [hu])
theorem eqFs_sound {d:Nat} {us vs:List Value} {xs ys:List AV} (hul:us.length=xs.length) (hu1:∀ i,i<xs.length→(us.getD i undef).oneCell'=true) (hu:∀ i,i<xs.length→R G (xs.getD i .top) (us.getD i undef))
    (hvl:vs.length=ys.length) (hv1:∀ i,i<ys.length→(vs.getD i undef).oneCell'=true) (hv:∀ i,i<ys.length→R G (ys.getD i .top) (vs.getD i undef)):
    ∀ (fs:List Field) (i:Nat) (ks:List Nat) (b:Bool),seqL P i fs=some ks→aggEq ks (xs.drop i) (ys.drop i)=some b→(Op.eqFields (d+1) us.toArray vs.toArray fs).run P w= .ok b w
  |[],i,ks,b,hs,h=>by
   cases hs;cases h;rfl
  |f::fs,i,ks,b,hs,h=>by
   unfold seqL at hs
   split at hs
   ·rename_i hc
    obtain ⟨hn,ho⟩:=hc
    split at hs
    ·rename_i k l hk hl
     cases hs
     generalize hxd:xs.drop i=xd at h
     generalize hyd:ys.drop i=yd at h
     cases xd with
     |nil=>cases h
     |cons x xd=>cases yd with
      |nil=>cases h
      |cons y yd=>
       simp only [aggEq] at h
       have hxi:i<xs.length:=by
         rcases Nat.lt_or_ge i xs.length with h|h
         ·exact h
         ·rw [List.drop_eq_nil_of_le h] at hxd;cases hxd
       have hyi:i<ys.length:=by
         rcases Nat.lt_or_ge i ys.length with h|h
         ·exact h
         ·rw [List.drop_eq_nil_of_le h] at hyd;cases hyd
       rw [List.drop_eq_getElem_cons hxi] at hxd
       rw [List.drop_eq_getElem_cons hyi] at hyd
       simp only [List.cons.injEq] at hxd hyd
       have ha:=kindT_agg hk
       obtain ⟨u,e1,r1⟩:=partV_sound (P:=P) (w:=w) (t:=f.type) (off:=f.offset) (p:=True) (x:=x) hul hu1 hu (by unfold partV;rw [ha,ho];simp only;rw [if_pos hxi,←hxd.1,getD_elem _ _ hxi];rfl)
       obtain ⟨v,e2,r2⟩:=partV_sound (P:=P) (w:=w) (t:=f.type) (off:=f.offset) (p:=True) (x:=y) hvl hv1 hv (by unfold partV;rw [ha,ho];simp only;rw [if_pos hyi,←hyd.1,getD_elem _ _ hyi];rfl)
       split at h
       ·rename_i b1 c1 h1 h2
        cases h
        rw [←hxd.2,←hyd.2] at h2
        have ih:=eqFs_sound (d:=d) hul hu1 hu hvl hv1 hv fs (i+1) l c1 hl h2
        have hq:=scEq_sound (P:=P) (w:=w) (d:=d) r1 r2 hk h1
        simp only [Op.eqFields,if_pos hn,Sem.run_bind,e1,Result.andThen_ok,e2,hq]
        cases b1 with
        |false=>simp
        |true=>simpa using ih
       ·cases h
    ·cases hs
   ·cases hs
theorem aggEq_sound {t:TypeId} {xs ys:List AV} {u v:Value} {b:Bool} {ks:List Nat} (hx:R G (.agg xs) u) (hy:R G (.agg ys) v) (hs:seqK P t=some ks) (h:aggEq ks xs ys=some b) (op:BinOp) (ox oy:Operand):
    (eqGuard op t ox oy u v).run P w= .ok () w∧(binOp .eql t u v).run P w= .ok (.bool b) w∧(binOp .neq t u v).run P w= .ok (.bool (!b)) w:=by
  obtain ⟨us,rfl,hul,hu1,hu⟩:=hx.agg_inv
  obtain ⟨vs,rfl,hvl,hv1,hv⟩:=hy.agg_inv
  unfold seqK at hs
  split at hs
  ·rename_i fs ht
   split at hs
   ·rename_i hc
    have hf:P.fieldsOf t=fs:=by unfold Program.fieldsOf;rw [ht]
    have he:=run_equalIn_agg (P:=P) w 9999 t us.toArray vs.toArray (by rw [hf];exact ht) hc.1
    rw [hf,eqFs_sound (d:=9998) hul hu1 hu hvl hv1 hv fs.toList 0 ks b hs (by simpa using h)] at he
    refine ⟨run_eqGuard_agg w op t ox oy _ _ hc.2,?_,?_⟩
    ·rw [run_eql_struct,he];rfl
    ·rw [run_neq_struct,he];rfl
   ·cases hs
  ·cases hs
def isAgg2:AV→AV→Bool
  |.agg _,.agg _=>true
  |_,_=>false
theorem nilEq_agg {t:TypeId} {x y:AV} {b:Bool} (h:nilEq P t x y=some b) (hq:isAgg2 x y=true):∃ xs ys ks,x= .agg xs∧y= .agg ys∧seqK P t=some ks∧aggEq ks xs ys=some b:=by
  unfold isAgg2 at hq
  split at hq
  ·rename_i xs ys
   simp only [nilEq] at h
   split at h
   ·rename_i ks hk
    exact ⟨xs,ys,ks,rfl,rfl,hk,h⟩
   ·cases h
  ·cases hq
theorem nilEq_flat {t:TypeId} {x y:AV} (hq:isAgg2 x y=false):nilEq P t x y=match P.underlying t with
    |some (.pointer _)=>ptrEq x y
    |some .bool=>boolEq x y
    |_=>none:=by
  unfold nilEq
  split
  ·cases hq
  ·rfl
theorem nilEq_cases {t:TypeId} {x y:AV} {u v:Value} {b:Bool} (hq:isAgg2 x y=false) (hx:R G x u) (hy:R G y v) (h:nilEq P t x y=some b):
    (∃ e,P.underlying t=some (.pointer e))∧((u= .pointer none∧v= .pointer none∧b=true)∨(u= .pointer none∧(∃ a,v= .pointer (some a))∧b=false)∨((∃ a,u= .pointer (some a))∧v= .pointer none∧b=false))∨
    P.underlying t=some .bool∧∃ c d,u= .bool c∧v= .bool d∧b=(c==d):=by
  rw [nilEq_flat hq] at h
  split at h
  ·rename_i e ht
   refine .inl ⟨⟨e,ht⟩,?_⟩
   unfold ptrEq at h
   split at h
   ·rename_i h1
    split at h
    ·rename_i h2;cases h;exact .inl ⟨isNilP_sound hx h1,isNilP_sound hy h2,rfl⟩
    ·split at h
     ·rename_i h2;cases h;exact .inr (.inl ⟨isNilP_sound hx h1,isPtr_sound hy h2,rfl⟩)
     ·cases h
   ·split at h
    ·rename_i h2
     split at h
     ·rename_i h3;cases h;exact .inr (.inr ⟨isPtr_sound hx h3,isNilP_sound hy h2,rfl⟩)
     ·cases h
    ·cases h
  ·rename_i ht
   refine .inr ⟨ht,?_⟩
   unfold boolEq at h
   split at h
   ·cases h;exact ⟨_,_,hx.lit_inv,hy.lit_inv,rfl⟩
   ·cases h
  ·cases h
theorem nilEq_sound {t:TypeId} {x y:AV} {u v:Value} {b:Bool} (hq:isAgg2 x y=false) (hx:R G x u) (hy:R G y v) (h:nilEq P t x y=some b):
    (Op.equal t u v).run P w= .ok b w:=by
  rcases nilEq_cases hq hx hy h with ⟨⟨e,ht⟩,⟨rfl,rfl,rfl⟩|⟨rfl,⟨a,rfl⟩,rfl⟩|⟨⟨a,rfl⟩,rfl,rfl⟩⟩|⟨ht,c,d,rfl,rfl,rfl⟩
  all_goals (rw [equal_step,Op.equalIn];simp [run_und ht])
def plainEq:Value→Bool
  |.nilIface=>false
  |.agg _=>false
  |_=>true
theorem eqGuard_run {op:BinOp} {t:TypeId} {x y:Operand} {a b:Value} (ha:plainEq a=true):(eqGuard op t x y a b).run P w= .ok () w:=by
  cases op<;>first|rfl|(cases a<;>first|(cases ha;done)|rfl|(cases b<;>rfl))
theorem nilEq_op {t:TypeId} {x y:AV} {u v:Value} {b:Bool} (hq:isAgg2 x y=false) (hx:R G x u) (hy:R G y v) (h:nilEq P t x y=some b):
    plainEq u=true∧(binOp .eql t u v=do pure (.bool (←Op.equal t u v)))∧(binOp .neq t u v=do pure (.bool (!(←Op.equal t u v)))):=by
  rcases nilEq_cases hq hx hy h with ⟨⟨e,ht⟩,⟨rfl,rfl,rfl⟩|⟨rfl,⟨a,rfl⟩,rfl⟩|⟨⟨a,rfl⟩,rfl,rfl⟩⟩|⟨ht,c,d,rfl,rfl,rfl⟩
  all_goals exact ⟨rfl,rfl,rfl⟩
theorem binV_sound {wr:Bool} {op:BinOp} {t:TypeId} {x y z:AV} {u v:Value} {p:Prop} (hx:R G x u) (hy:R G y v) (h:binV P wr op t x y=some (p,z)) (hp:p) (ox oy:Operand):
    ∃ r,(do eqGuard op t ox oy u v;binOp op t u v:Sem Value).run P w= .ok r w∧R G z r:=by
  unfold binV at h
  split at h
  ·rename_i k a k' b
   cases h
   rw [hx.lit_inv,hy.lit_inv]
   have hp': ¬ b<0:=by have:0≤b:=hp;omega
   exact ⟨_,by simp [eqGuard,binOp,Op.shift,hp',shlI],R.lit _⟩
  ·rename_i k a k' b
   cases h
   rw [hx.lit_inv,hy.lit_inv]
   have hp': ¬ b<0:=by have:0≤b:=hp;omega
   exact ⟨_,by simp [eqGuard,binOp,Op.shift,hp',shrI],R.lit _⟩
  ·rename_i op' k a k' b n1 n2
   split at h
   ·rename_i hk
    subst hk
    rw [hx.lit_inv,hy.lit_inv]
    have hop:op≠ .shl∧op≠ .shr:=by
      constructor
      ·intro e;subst e;unfold intBinV at h;cases h
      ·intro e;subst e;unfold intBinV at h;cases h
    obtain ⟨r,h1,h2⟩:=intBin_sound (P:=P) (w:=w) (G:=G) (t:=t) h hp hop
    exact ⟨r,by simp [eqGuard_run (P:=P) (w:=w) (a:=Value.int k a) rfl,h1],h2⟩
   ·cases h
  ·rename_i a b
   rw [hx.lit_inv,hy.lit_inv]
   obtain ⟨r,h1,h2⟩:=strBin_sound (P:=P) (w:=w) (G:=G) h hp
   refine ⟨r,?_,h2⟩
   have e:binOp op t (.string a) (.string b)=Op.stringOp op a b:=by cases op<;>rfl
   simp [eqGuard_run (P:=P) (w:=w) (a:=Value.string a) rfl,e,h1]
  ·split at h
   ·rename_i b hb
    cases h
    cases hq:isAgg2 x y with
    |true=>
     obtain ⟨xs,ys,ks,rfl,rfl,h1,h2⟩:=nilEq_agg hb hq
     obtain ⟨k1,k2,k3⟩:=aggEq_sound (P:=P) (w:=w) hx hy h1 h2 .eql ox oy
     exact ⟨_,by simp only [Sem.run_bind,k1,Result.andThen_ok,k2],R.lit _⟩
    |false=>
     have he:=nilEq_sound (P:=P) (w:=w) hq hx hy hb
     obtain ⟨hpl,e⟩:=nilEq_op (t:=t) hq hx hy hb
     exact ⟨_,by simp [eqGuard_run (P:=P) (w:=w) hpl,e.1,he],R.lit _⟩
   ·cases h
  ·split at h
   ·rename_i b hb
    cases h
    cases hq:isAgg2 x y with
    |true=>
     obtain ⟨xs,ys,ks,rfl,rfl,h1,h2⟩:=nilEq_agg hb hq
     obtain ⟨k1,k2,k3⟩:=aggEq_sound (P:=P) (w:=w) hx hy h1 h2 .neq ox oy
     exact ⟨_,by simp only [Sem.run_bind,k1,Result.andThen_ok,k3],R.lit _⟩
    |false=>
     have he:=nilEq_sound (P:=P) (w:=w) hq hx hy hb
     obtain ⟨hpl,e⟩:=nilEq_op (t:=t) hq hx hy hb
     exact ⟨_,by simp [eqGuard_run (P:=P) (w:=w) hpl,e.2,he],R.lit _⟩
   ·cases h
  ·cases h
theorem ifaceV_sound {op:BinOp} {t:TypeId} {x y:AV} {u v:Value} {b:Bool} {ox oy:Operand} (hx:R G x u) (hy:R G y v) (h:ifaceV P op t x y oy=some b):
    (do eqGuard op t ox oy u v;binOp op t u v:Sem Value).run P w= .ok (.bool b) w:=by
  unfold ifaceV at h
  split at h
  ·rename_i hc
   have hoy:oy= .const .nilIface:=by
     unfold isNilC at hc
     split at hc
     ·rfl
     ·cases hc
   subst hoy
   split at h
   ·rename_i hi
    obtain ⟨ms,hu⟩:∃ ms,P.underlying t=some (.interface ms):=by
      unfold isIfT at hi
      split at hi
      ·rename_i ms hu;exact ⟨ms,hu⟩
      ·cases hi
    have ha:∀ d,(Op.equalIn (d+1) t .nilIface .nilIface).run P w= .ok true w:=fun d=>by rw [Op.equalIn];simp [run_und hu]
    have hb:∀ d u x,(Op.equalIn (d+1) t (.iface u x) .nilIface).run P w= .ok false w:=fun d u x=>by rw [Op.equalIn];simp [run_und hu]
    unfold ifaceB at h
    split at h<;>cases h
    ·rw [hx.lit_inv,hy.lit_inv];simp [eqGuard,binOp,Op.equal,Op.maxDepth,ha 9999]
    ·rw [hx.lit_inv,hy.lit_inv];simp [eqGuard,binOp,Op.equal,Op.maxDepth,ha 9999]
    ·rw [hx.lit_inv,hy.lit_inv];simp [eqGuard,binOp,Op.equal,Op.maxDepth,hb 9999]
    ·rw [hx.lit_inv,hy.lit_inv];simp [eqGuard,binOp,Op.equal,Op.maxDepth,hb 9999]
   ·cases h
  ·cases h
theorem unV_sound {wr:Bool} {op:UnOp} {x y:AV} {v:Value} {p:Prop} (hx:R G x v) (h:unV wr op x=some (p,y)) (hp:p):∃ r,(Op.unary op v).run P w= .ok r w∧R G y r:=by
  unfold unV at h
  split at h
  ·rename_i k a
   rw [hx.lit_inv]
   split at h
   ·exact ⟨.int k (k.wrap (0 - a)),rfl,arithV_sound h hp⟩
   ·cases h
  ·rename_i b
   rw [hx.lit_inv]
   split at h
   ·cases h;exact ⟨_,by simp [Op.unary],R.lit _⟩
   ·cases h
  ·cases h
theorem u8sOf_spec:∀ {xs:List AV} {l:List Int},u8sOf xs=some l→xs=l.map (fun n=> .lit (.int .u8 n))
  |[],l,h=>by cases h;rfl
  |x::xs,l,h=>by
   unfold u8sOf at h
   split at h
   ·cases h;simp_all
   ·rename_i n xs' hx
    simp only [Option.map_eq_some_iff] at h
    obtain ⟨l',h1,rfl⟩:=h
    simp only [List.cons.injEq] at hx
    obtain ⟨rfl,rfl⟩:=hx
    simp [u8sOf_spec h1]
   ·cases h
theorem slOf_all {x:AV} {v:Value} {sz:Nat} {xs:List AV} (hr:Rel cx G σ w) (hx:R G x v) (h:slOf σ x=some (sz,xs)):∃ full,RC (allC w) (.sl full sz xs) v:=by
  unfold slOf at h
  split at h
  ·cases h;exact ⟨_,hx.sl_inv.mono hr.le_all⟩
  ·obtain ⟨e,fz,ho,rfl,hok⟩:=R.of_getObj hr h hx
   exact ⟨false,hok.all hr⟩
  ·split at h
   ·rename_i hg
    split at h
    ·rename_i hs
     cases h
     exact ⟨false,(sub_all hr hg hs hx).1⟩
    ·cases h
   ·cases h
  ·cases h
theorem bytes_loop {l:List Value} (bs:List Int) (h:l=bs.map fun n=> .int .u8 n) (g:Value→ByteArray→Sem (ForInStep ByteArray))
    (hg:∀ n s,g (.int .u8 n) s=pure (ForInStep.yield (s.push (UInt8.ofNat n.toNat)))) (s:ByteArray) (w:World):
    (forIn (m:=Sem) l.toArray s g).run P w= .ok (⟨s.data++(bs.map fun n=>UInt8.ofNat n.toNat).toArray⟩:ByteArray) w:=by
  subst h
  simp only [List.forIn_toArray]
  induction bs generalizing s with
  |nil=>simp
  |cons b bs ih=>
   simp only [List.map_cons,List.forIn_cons,Sem.run_bind,hg,Sem.run_pure,Result.andThen_ok]
   rw [ih]
   congr 2
   simp [ByteArray.push,Array.push_append]
theorem flat_lits {α:Type} (g:α→Value) (l:List α):flat (l.map fun n=> .lit (g n))=l.map fun n=> .lit (g n):=by
  induction l with
  |nil=>rfl
  |cons a l ih=>
   simp only [flat,List.map_cons,List.flatMap_cons] at ih ⊢
   rw [ih];rfl
theorem convV_sound {src dst:TypeId} {x y:AV} {v:Value} {p:Prop} (hr:Rel cx G σ w) (hx:R G x v) (h:convV P σ src dst x=some (p,y)):∃ r,(convert src dst v).run P w= .ok r w∧R G y r:=by
  unfold convV at h
  split at h
  ·rename_i d k k' n h1 h2
   cases h
   rw [hx.lit_inv]
   refine ⟨_,?_,R.lit _⟩
   simp only [convert,Sem.run_bind,run_und h1,run_und h2,Result.andThen_ok]
   cases d<;>rfl
  ·rename_i s h1 h2
   cases h
   rw [hx.lit_inv]
   exact ⟨_,by simp [convert,run_und h1,run_und h2],R.lit _⟩
  ·rename_i e h1 h2
   split at h
   ·rename_i h3
    cases h
    rw [hx.lit_inv]
    exact ⟨_,by simp [convert,run_und h1,run_und h2,run_und h3,Conv.bytesToString],R.lit _⟩
   ·rename_i h3 hn
    split at h
    ·rename_i sz xs hs
     split at h
     ·rename_i l hl
      split at h
      ·rename_i hsz
       cases h
       subst hsz
       obtain ⟨full,hrc⟩:=slOf_all hr hx hs
       have hxs:=u8sOf_spec hl
       have hconv:∀ z,(convert src dst z).run P w=(Conv.bytesToString z).run P w∨∀ a b c,z≠ .slice a b c:=by
         intro z
         cases z with
         |slice a b c=>left;cases a<;>simp [convert,run_und h1,run_und h2,run_und h3]
         |_=>right;intro a b c e;cases e
       cases hrc with
       |nil _ _ a=>
        have hl0:l=[]:=by simpa using hxs.symm
        refine ⟨.string ByteArray.empty,?_,?_⟩
        ·rcases hconv (.slice a 0 0) with hc|hc
         ·rw [hc];cases a<;>simp [Conv.bytesToString,loadCells,loadCellsFrom]<;>rfl
         ·exact absurd rfl (hc _ _ _)
        ·rw [hl0];exact R.lit _
       |sl _ _ _ b off cap f hc hm hf hw hC hone hR=>
        refine ⟨.string (bytesOf l),?_,R.lit _⟩
        rcases hconv (.slice (some ⟨b,off,none⟩) xs.length cap) with hcv|hcv
        ·rw [hcv]
         have hfx:flat xs=xs:=by rw [hxs];exact flat_lits _ l
         have hcells:=loadCells_run (P:=P) (w:=w) b off xs.length f (fun j hj=>hC j (by rw [hfx];exact hj))
         have hvals:(List.range xs.length).map f=l.map fun n=>Value.int .u8 n:=by
           apply List.ext_getElem
           ·simp [hxs]
           ·intro i hi1 hi2
            have hi:i<xs.length:=by simpa using hi1
            have:=hR i (by rw [hfx];exact hi)
            rw [hfx,getD_elem _ _ hi] at this
            have hxi:xs[i]= .lit (.int .u8 (l[i]'(by simpa using hi2))):=by simp [hxs]
            rw [hxi] at this
            have:=(R.clo (G:=⟨allC w,0,fun _=>undef,fun _=>0⟩) _ _ this).lit_inv
            simpa using this
         simp only [Conv.bytesToString,Sem.run_bind,hcells,Result.andThen_ok]
         rw [bytes_loop (P:=P) l hvals _ (fun n s=>rfl) ByteArray.empty w]
         simp [bytesOf]
        ·exact absurd rfl (hcv _ _ _)
      ·cases h
     ·cases h
    ·cases h
   ·cases h
  ·cases h
end Go.Fw

namespace Go.Fw
open Go
set_option linter.unusedSectionVars false
variable [TB]
variable {P:Program} {E:Env} {cx:Cx} {G:Gh} {σ:List AObj} {w:World}
theorem setRange_length (ys:List AV):∀ (cs:List AV) (off:Nat),(setRange cs off ys).length=cs.length:=by
  induction ys with
  |nil=>intro cs off;rfl
  |cons y ys ih=>intro cs off;simp only [setRange];rw [ih];simp
theorem setRange_getD (ys:List AV):∀ (cs:List AV) (off i:Nat),off+ys.length≤cs.length→
    (setRange cs off ys).getD i .top=if off≤i∧i<off+ys.length then ys.getD (i - off) .top else cs.getD i .top:=by
  induction ys with
  |nil=>intro cs off i _;simp only [setRange];rw [if_neg (by simp)]
  |cons y ys ih=>
   intro cs off i h
   simp only [List.length_cons] at h ⊢
   simp only [setRange]
   rw [ih _ _ _ (by simp;omega)]
   by_cases h1:off+1≤i∧i<off+1+ys.length
   ·rw [if_pos h1,if_pos (by omega),show i - off=(i - (off+1))+1 by omega];simp
   ·rw [if_neg h1]
    by_cases h2:i=off
    ·subst h2
     rw [if_pos (by omega)]
     simp [List.getD,List.getElem?_set_self (show i<cs.length by omega)]
    ·rw [if_neg (by omega)]
     simp [List.getD,List.getElem?_set_ne (Ne.symm h2)]
def setRangeA (cur:Array Value) (off:Nat):List Value→Array Value
  |[]=>cur
  |y::ys=>setRangeA (cur.setIfInBounds off y) (off+1) ys
theorem setRangeA_size (ys:List Value):∀ (cur:Array Value) (off:Nat),(setRangeA cur off ys).size=cur.size:=by
  induction ys with
  |nil=>intro cs off;rfl
  |cons y ys ih=>intro cs off;simp only [setRangeA];rw [ih];simp
theorem setRangeA_getD (ys:List Value):∀ (cs:Array Value) (off i:Nat),off+ys.length≤cs.size→
    (setRangeA cs off ys).getD i undef=if off≤i∧i<off+ys.length then ys.getD (i - off) undef else cs.getD i undef:=by
  induction ys with
  |nil=>intro cs off i _;simp only [setRangeA];rw [if_neg (by simp)]
  |cons y ys ih=>
   intro cs off i h
   simp only [List.length_cons] at h ⊢
   simp only [setRangeA]
   rw [ih _ _ _ (by simp;omega)]
   by_cases h1:off+1≤i∧i<off+1+ys.length
   ·rw [if_pos h1,if_pos (by omega),show i - off=(i - (off+1))+1 by omega];simp
   ·rw [if_neg h1]
    by_cases h2:i=off
    ·subst h2
     rw [if_pos (by omega)]
     simp [Array.getElem?_setIfInBounds,show i<cs.size by omega]
    ·rw [if_neg (by omega)]
     simp [Array.getElem?_setIfInBounds,Ne.symm h2]
theorem foldl_setRangeA (ys:List Value) (off:Nat):∀ (k:Nat) (cur:Array Value),
    (ys.zipIdx k).foldl (fun cs (p:Value×Nat)=>cs.setIfInBounds (off+p.2) p.1) cur=setRangeA cur (off+k) ys:=by
  induction ys with
  |nil=>intro k cur;rfl
  |cons y ys ih=>
   intro k cur
   simp only [List.zipIdx_cons,List.foldl_cons,setRangeA]
   rw [ih,Nat.add_assoc]
def RCells (G:Gh) (cs:List AV) (cur:Array Value):Prop:=cur.size=cs.length∧∀ i,i<cs.length→R G (cs.getD i .top) (cur.getD i undef)∧(cur.getD i undef).oneCell'=true
theorem RCells.set {cs ys:List AV} {cur:Array Value} {zs:List Value} {off:Nat} (h:RCells G cs cur) (hl:zs.length=ys.length) (hoff:off+ys.length≤cs.length)
    (hz:∀ i,i<ys.length→R G (ys.getD i .top) (zs.getD i undef)∧(zs.getD i undef).oneCell'=true):RCells G (setRange cs off ys) (setRangeA cur off zs):=by
  refine ⟨by rw [setRangeA_size,setRange_length,h.1],fun i hi=>?_⟩
  rw [setRange_length] at hi
  rw [setRange_getD _ _ _ _ hoff,setRangeA_getD _ _ _ _ (by rw [h.1,hl];exact hoff),hl]
  split
  ·exact hz _ (by omega)
  ·exact h.2 i hi
def RCellsW (G:Gh) (cs:List AV) (cur:Array Value):Prop:=cs.length≤cur.size∧∀ i,i<cs.length→R G (cs.getD i .top) (cur.getD i undef)∧(cur.getD i undef).oneCell'=true
theorem RCellsW.set {cs ys:List AV} {cur:Array Value} {zs:List Value} {off:Nat} (h:RCellsW G cs cur) (hl:zs.length=ys.length) (hoff:off+ys.length≤cs.length)
    (hz:∀ i,i<ys.length→R G (ys.getD i .top) (zs.getD i undef)∧(zs.getD i undef).oneCell'=true):RCellsW G (setRange cs off ys) (setRangeA cur off zs):=by
  have h1:=h.1
  refine ⟨by rw [setRangeA_size,setRange_length];exact h1,fun i hi=>?_⟩
  rw [setRange_length] at hi
  rw [setRange_getD _ _ _ _ hoff,setRangeA_getD _ _ _ _ (by rw [hl];omega),hl]
  split
  ·exact hz _ (by omega)
  ·exact h.2 i hi
theorem arr_getD (a:Array Value) (i:Nat):a.getD i undef=a.toList.getD i undef:=by
  rw [Array.getD_eq_getD_getElem?];simp [List.getD]
theorem cellsL {x:AV} {v:Value} (hx:R G x v) (hs:x.solid=true):v.cells.toList.length=x.cells.length∧
    ∀ i,i<x.cells.length→R G (x.cells.getD i .top) (v.cells.toList.getD i undef)∧(v.cells.toList.getD i undef).oneCell'=true:=by
  obtain ⟨h1,h2⟩:=hx.cells hs
  refine ⟨by simpa using h1,fun i hi=>?_⟩
  rw [←arr_getD]
  exact h2 i hi
theorem fillV_sound {place:Nat→Option (Nat×Nat)}:∀ {parts:List (Nat×AV)} {cs cs':List AV} {cur:Array Value} {vs:List (Nat×Value)},RCells G cs cur→
    vs.map (·.1)=parts.map (·.1)→(∀ i,i<parts.length→R G (parts.map (·.2)|>.getD i .top) (vs.map (·.2)|>.getD i undef))→
    fillV place cs parts=some cs'→∃ cur',Instr.fill place cur vs=some cur'∧RCells G cs' cur'
  |[],cs,cs',cur,vs,hc,hv,_,h=>by
   cases h
   have:vs=[]:=by simpa using hv
   subst this
   exact ⟨cur,rfl,hc⟩
  |(i,x)::rest,cs,cs',cur,vs,hc,hv,hR,h=>by
   cases vs with
   |nil=>simp at hv
   |cons u vs=>
    obtain ⟨i',v⟩:=u
    simp only [List.map_cons,List.cons.injEq] at hv
    obtain ⟨rfl,hv⟩:=hv
    simp only [fillV] at h
    cases hpl:place i' with
    |none=>rw [hpl] at h;cases h
    |some os=>
     obtain ⟨off,size⟩:=os
     rw [hpl] at h
     simp only at h
     split at h
     ·rename_i hcond
      obtain ⟨h1,h2,h3⟩:=hcond
      have hx:R G x v:=by simpa using hR 0 (by simp)
      obtain ⟨k1,k2⟩:=cellsL hx h1
      have hset:=hc.set (off:=off) k1 (by omega) k2
      obtain ⟨cur',e1,e2⟩:=fillV_sound (vs:=vs) hset hv (fun j hj=>by simpa using hR (j+1) (by simpa using hj)) h
      refine ⟨cur',?_,e2⟩
      have hsz:v.cells.size=size:=by rw [←h2,←k1];simp
      have hcur:=hc.1
      simp only [Instr.fill,hpl]
      rw [if_neg (by simp;omega),←e1]
      congr 1
      rw [←Array.foldl_toList,Array.toList_zipIdx]
      exact foldl_setRangeA _ off 0 cur
     ·cases h
theorem zero_cells (hE:EnvOk P E) {t:TypeId} {z:Value} (hz:zeroT P t=some z) (hs:(E.zero t).solid=true):RCells G (E.zero t).cells z.cells:=by
  have h:R G (E.zero t) z:= .clo _ _ ((hE.zero t z hz).mono (fun _ _ _ h=>by cases h))
  obtain ⟨h1,h2⟩:=h.cells hs
  exact ⟨h1,h2⟩
theorem RCells.agg {cs:List AV} {cur:Array Value} (h:RCells G cs cur):R G (.agg cs) (.agg cur):=by
  have e:cur=cur.toList.toArray:=by simp
  rw [e]
  refine .agg _ _ (by simpa using h.1) (fun i hi=>?_) (fun i hi=>?_)
  ·rw [←arr_getD];exact (h.2 i hi).2
  ·rw [←arr_getD];exact (h.2 i hi).1
theorem buildV_sound (hE:EnvOk P E) {t:TypeId} {parts:List (Nat×AV)} {vs:List (Nat×Value)} {y:AV} {p:Prop} (hv:vs.map (·.1)=parts.map (·.1))
    (hR:∀ i,i<parts.length→R G (parts.map (·.2)|>.getD i .top) (vs.map (·.2)|>.getD i undef)) (h:buildV P E t parts=some (p,y)):
    ∃ r,(Instr.build t vs.toArray).run P w= .ok r w∧R G y r:=by
  unfold buildV at h
  split at h
  ·rename_i hc
   obtain ⟨hs,hz⟩:=hc
   obtain ⟨z,hz⟩:=Option.isSome_iff_exists.1 hz
   have hzc:=zero_cells (G:=G) hE hz hs
   split at h
   ·rename_i hso
    simp only [Option.map_eq_some_iff,Prod.mk.injEq] at h
    obtain ⟨cs,h1,_,rfl⟩:=h
    obtain ⟨cur,e1,e2⟩:=fillV_sound hzc hv hR h1
    refine ⟨.agg cur,run_build w t _ _ ?_,e2.agg⟩
    unfold structOk at hso
    split at hso
    ·rename_i fields hu
     obtain ⟨it,hit⟩:=underlying_info hu
     have hz':it.zero=some z:=by simpa [zeroT,hit] using hz
     have hplaces:fields.toList.mapM (fun f=>(P.info? f.type).map fun i=>(f.offset,i.size))=some (fields.toList.map fun f=>(f.offset,szT P f.type)):=by
       generalize fields.toList=l at hso
       induction l with
       |nil=>rfl
       |cons f l ih=>
        simp only [List.all_cons,Bool.and_eq_true] at hso
        obtain ⟨i,hi⟩:=Option.isSome_iff_exists.1 hso.1
        simp [List.mapM_cons,hi,ih hso.2,szT]
     simp only [Program.built,hit,hu,hz',hplaces]
     rw [←e1]
     congr 1
     funext i
     simp only [fieldT,hu]
     simp [Function.comp_def]
    ·cases hso
   ·split at h
    ·rename_i n e hu
     split at h
     ·cases h
     ·rename_i hz0
      simp only [Option.map_eq_some_iff,Prod.mk.injEq] at h
      obtain ⟨cs,h1,_,rfl⟩:=h
      obtain ⟨cur,e1,e2⟩:=fillV_sound hzc hv hR h1
      refine ⟨.agg cur,run_build w t _ _ ?_,e2.agg⟩
      obtain ⟨it,hit⟩:=underlying_info hu
      have hz':it.zero=some z:=by simpa [zeroT,hit] using hz
      have hie:∃ ie,P.info? e=some ie∧ie.size=szT P e:=by
        unfold szT at hz0 ⊢
        cases hi:P.info? e with
        |none=>rw [hi] at hz0;exact absurd rfl hz0
        |some i=>exact ⟨i,rfl,rfl⟩
      obtain ⟨ie,hie,hsz⟩:=hie
      simp only [Program.built,hit,hu,hz',hie,hsz]
      exact e1
    ·cases h
  ·cases h
theorem nilChk_sound {x y:AV} {v:Value} {p:Prop} (hr:Rel cx G σ w) (hx:R G x v) (h:nilChkV σ x=some (p,y)):
    (∃ a,v= .pointer (some a))∧R G y v∨(∃ g a b,v= .func (.func g) a b)∧R G y v:=by
  unfold nilChkV at h
  split at h
  ·cases h
   obtain ⟨_,g,_,rfl⟩:=hx.ref_inv
   exact .inl ⟨⟨_,rfl⟩,hx⟩
  ·split at h
   ·rename_i hg
    cases h
    obtain ⟨g,n,cap,_,rfl,_⟩:=eref_now hr hg hx
    exact .inl ⟨⟨_,rfl⟩,hx⟩
   ·cases h
  ·cases h
   have hx':=hx
   cases hx.sref_inv with
   |sref _ _ b off f=>exact .inl ⟨⟨_,rfl⟩,hx'⟩
  ·cases h
   have hx':=hx
   obtain ⟨vs,us,rfl,_⟩:=hx.fn_inv
   exact .inr ⟨⟨_,_,_,rfl⟩,hx'⟩
  ·cases h
theorem extractV_sound {x y:AV} {v:Value} {i:Nat} {p:Prop} (hx:R G x v) (h:extractV x i=some (p,y)):∃ r,(Instr.extract v i).run P w= .ok r w∧R G y r:=by
  unfold extractV at h
  split at h
  ·rename_i xs _
   split at h
   ·rename_i hi
    cases h
    obtain ⟨vs,rfl,hl,hh⟩:=hx.tup_inv
    have hi':i<vs.length:=by omega
    refine ⟨vs[i],by simp [Instr.extract,hi'],?_⟩
    have:=hh i hi
    rwa [getD_elem _ _ hi'] at this
   ·cases h
  ·cases h
theorem lenOf_sound {x:AV} {v:Value} {n:Nat} (hr:Rel cx G σ w) (hx:R G x v) (h:lenOf σ x=some n):∃ a cap,v= .slice a n cap:=by
  unfold lenOf at h
  split at h
  ·cases h
   obtain ⟨a,cap,rfl⟩:=sl_len hx.sl_inv
   exact ⟨a,cap,rfl⟩
  ·simp only [Option.map_eq_some_iff] at h
   obtain ⟨⟨sz,xs⟩,hg,rfl⟩:=h
   obtain ⟨e,fz,ho,rfl,hok⟩:=R.of_getObj hr hg hx
   obtain ⟨a,cap,hb,_⟩:=hok.2.1
   exact ⟨a,cap,hb⟩
  ·simp only [Option.map_eq_some_iff] at h
   obtain ⟨z,hg,rfl⟩:=h
   exact (hx.sub_inv.2.2 (getObj_ver hr hg)).slice
  ·cases h
   rw [hx.lit_inv]
   exact ⟨none,0,rfl⟩
  ·cases h
   obtain ⟨_,g,cap,_,_,_,rfl⟩:=hx.bsl_inv
   exact ⟨_,cap,rfl⟩
  ·cases h
theorem foldI_sound (f:Value→Value→Sem Value) (g:Int→Int→Int) (k:IntKind) (hf:∀ k' a b,f (.int k a) (.int k' b)=pure (.int k (g a b))):
    ∀ {xs:List AV} {a:Int} {vs:List Value} {p:Prop} {y:AV},RLG G xs vs→foldI g k a xs=some (p,y)→∃ r,(vs.foldlM f (.int k a)).run P w= .ok r w∧R G y r
  |[],a,vs,p,y,⟨hl,_⟩,h=>by
   cases h
   have:vs=[]:=List.eq_nil_of_length_eq_zero hl
   subst this
   exact ⟨_,by simp,R.lit _⟩
  |x::xs,a,vs,p,y,⟨hl,hh⟩,h=>by
   unfold foldI at h
   split at h
   ·rename_i h0;cases h0
   ·rename_i k' b xs' hx
    simp only [List.cons.injEq] at hx
    obtain ⟨rfl,rfl⟩:=hx
    cases vs with
    |nil=>simp at hl
    |cons v vs=>
     have h0:v= .int k' b:=by have:=hh 0 (by simp);simpa using this.lit_inv
     subst h0
     obtain ⟨r,h1,h2⟩:=foldI_sound f g k hf (vs:=vs) ⟨by simpa using hl,fun i hi=>by simpa using hh (i+1) (by simpa using hi)⟩ h
     exact ⟨r,by simp [hf,h1],h2⟩
   ·cases h
theorem builtinV_sound {b:Builtin} {ats:Array TypeId} {xs:List AV} {vs:List Value} {p:Prop} {y:AV} {ty:TypeId} {cs:Array Bool} (hr:Rel cx G σ w) (hx:RLG G xs vs)
    (h:builtinV P σ b ats xs=some (p,y)):∃ r,(builtin b ats ty cs vs.toArray).run P w= .ok (.value r) w∧R G y r:=by
  obtain ⟨hl,hh⟩:=hx
  unfold builtinV at h
  split at h
  ·rename_i x
   obtain ⟨v,rfl⟩:∃ v,vs=[v]:=by
     cases vs with
     |nil=>simp at hl
     |cons v vs=>cases vs with
      |nil=>exact ⟨v,rfl⟩
      |cons _ _=>simp at hl
   have h0:R G x v:=by simpa using hh 0 (by simp)
   split at h
   ·rename_i t hat
    split at h
    ·rename_i hu
     split at h
     ·cases h
      rw [h0.lit_inv]
      exact ⟨_,by simp [builtin,Builtin.len_,hat,run_und hu,goInt],R.lit _⟩
     ·cases h
    ·rename_i e hu
     split at h
     ·rename_i n hn
      cases h
      obtain ⟨a,cap,rfl⟩:=lenOf_sound hr h0 hn
      exact ⟨_,by simp [builtin,Builtin.len_,hat,run_und hu,goInt],R.lit _⟩
     ·cases h
    ·rename_i n e hu
     cases h
     refine ⟨_,?_,R.lit _⟩
     simp [builtin,Builtin.len_,hat,run_und hu,goInt]
    ·cases h
   ·cases h
  ·rename_i k a xs'
   cases vs with
   |nil=>simp at hl
   |cons v vs=>
    have h0:v= .int k a:=by have:=hh 0 (by simp);simpa using this.lit_inv
    subst h0
    obtain ⟨r,h1,h2⟩:=foldI_sound (P:=P) (w:=w) (G:=G) Builtin.min2 minI k (fun k' a b=>rfl) (vs:=vs) ⟨by simpa using hl,fun i hi=>by simpa using hh (i+1) (by simpa using hi)⟩ h
    exact ⟨r,by simp [builtin,Builtin.min_,h1],h2⟩
  ·rename_i k a xs'
   cases vs with
   |nil=>simp at hl
   |cons v vs=>
    have h0:v= .int k a:=by have:=hh 0 (by simp);simpa using this.lit_inv
    subst h0
    obtain ⟨r,h1,h2⟩:=foldI_sound (P:=P) (w:=w) (G:=G) Builtin.max2 maxI k (fun k' a b=>rfl) (vs:=vs) ⟨by simpa using hl,fun i hi=>by simpa using hh (i+1) (by simpa using hi)⟩ h
    exact ⟨r,by simp [builtin,Builtin.max_,h1],h2⟩
  ·cases h
end Go.Fw

namespace Go.Fw
open Go
set_option linter.unusedSectionVars false
variable [TB]
variable {P:Program} {E:Env} {cx:Cx} {G:Gh} {σ:List AObj} {w:World}
structure RowOk (C:Nat→Nat→Option Value) (sz:Nat) (xs:List AV) (cur:Array Value):Prop where
  wid:∀ x∈xs,x.cells.length=sz
  le:xs.length*sz≤cur.size
  rel:∀ i j,i<xs.length→j<sz→RC C ((xs.getD i .top).cells.getD j .top) (cur.getD (i*sz+j) undef)∧(cur.getD (i*sz+j) undef).oneCell'=true
theorem RowOk.flat {C:Nat→Nat→Option Value} {sz:Nat} {xs:List AV} {cur:Array Value} (h:RowOk C sz xs cur):
    ∀ j,j<(flat xs).length→RC C ((flat xs).getD j .top) (cur.getD j undef)∧(cur.getD j undef).oneCell'=true:=by
  intro j hj
  rw [flat_length h.wid] at hj
  have hsz:0<sz:=by
    rcases Nat.eq_zero_or_pos sz with h|h
    ·rw [h] at hj;simp at hj
    ·exact h
  have hd:j / sz<xs.length:=by rw [Nat.div_lt_iff_lt_mul hsz];exact hj
  have hr:=Nat.mod_lt j hsz
  have ej:j / sz*sz+j % sz=j:=by rw [Nat.mul_comm];exact Nat.div_add_mod j sz
  have:=h.rel (j / sz) (j % sz) hd hr
  rw [←flat_getD h.wid _ _ hd hr,ej] at this
  exact this
theorem RowOk.of_flat {C:Nat→Nat→Option Value} {sz:Nat} {xs:List AV} {cur:Array Value} (hw:∀ x∈xs,x.cells.length=sz) (hl:xs.length*sz≤cur.size)
    (h:∀ j,j<(Fw.flat xs).length→RC C ((Fw.flat xs).getD j .top) (cur.getD j undef)∧(cur.getD j undef).oneCell'=true):RowOk C sz xs cur:=
  ⟨hw,hl,fun i j hi hj=>by
    have:=h (i*sz+j) (by rw [flat_length hw];exact idx_lt hi hj)
    rwa [flat_getD hw i j hi hj] at this⟩
theorem RowOk.mono {C C':Nat→Nat→Option Value} {sz:Nat} {xs:List AV} {cur:Array Value} (h:RowOk C sz xs cur) (hC:CLe C C'):RowOk C' sz xs cur:=
  ⟨h.wid,h.le,fun i j hi hj=>⟨(h.rel i j hi hj).1.mono hC,(h.rel i j hi hj).2⟩⟩
theorem RowOk.sl {C:Nat→Nat→Option Value} {sz:Nat} {xs:List AV} {cur:Array Value} (h:RowOk C sz xs cur) (full:Bool) (g cap:Nat) (hc:xs.length≤cap) (hm:cap≤maxLen)
    (hf:full=true→cap=xs.length) (hC:∀ j,C g j=cur[j]?):RC C (.sl full sz xs) (.slice (some ⟨g,0,none⟩) xs.length cap):=by
  have hfl:=flat_length h.wid
  exact .sl full sz xs g 0 cap (fun j=>cur.getD j undef) hc hm hf h.wid
    (fun j hj=>by
      have:j<cur.size:=by rw [hfl] at hj;exact Nat.lt_of_lt_of_le hj h.le
      rw [Nat.zero_add,hC];simp [this])
    (fun j hj=>(h.flat j hj).2) (fun j hj=>(h.flat j hj).1)
theorem RC.one {C:Nat→Nat→Option Value} {x:AV} {v:Value} (h:RC C x v) (hv:v.oneCell'=true) (hx:x.cells=[x]):
    v.cells.toList.length=x.cells.length∧∀ i,i<x.cells.length→RC C (x.cells.getD i .top) (v.cells.toList.getD i undef)∧(v.cells.toList.getD i undef).oneCell'=true:=by
  have hone:v.cells= #[v]:=by
    cases v with
    |agg cs=>cases hv
    |_=>rfl
  rw [hone,hx]
  refine ⟨rfl,fun i hi=>?_⟩
  have:i=0:=by simp at hi;omega
  subst this
  exact ⟨by simpa using h,by simpa using hv⟩
theorem RC.cellsL {C:Nat→Nat→Option Value} {x:AV} {v:Value} (h:RC C x v) (hs:x.solid=true):
    v.cells.toList.length=x.cells.length∧∀ i,i<x.cells.length→RC C (x.cells.getD i .top) (v.cells.toList.getD i undef)∧(v.cells.toList.getD i undef).oneCell'=true:=by
  cases h with
  |agg xs vs hl h1 hh=>exact ⟨by simpa [AV.cells,Value.cells] using hl,fun i hi=>⟨by simpa [AV.cells,Value.cells] using hh i (by simpa [AV.cells] using hi),by simpa [Value.cells] using h1 i (by simpa [AV.cells] using hi)⟩⟩
  |top v=>cases hs
  |gd b x v hh=>cases hs
  |tup xs vs hl hh=>cases hs
  |lit v=>exact RC.one (.lit v) hs rfl
  |nil full sz' a=>exact RC.one (.nil full sz' a) rfl rfl
  |sl full sz' xs' b off cap f q1 q2 q3 q4 q5 q6 q7=>exact RC.one (.sl full sz' xs' b off cap f q1 q2 q3 q4 q5 q6 q7) rfl rfl
  |sref x j' b off f q1 q2 q3=>exact RC.one (.sref x j' b off f q1 q2 q3) rfl rfl
  |fn f xs' ys' vs us q1 q2 q3 q4=>exact RC.one (.fn f xs' ys' vs us q1 q2 q3 q4) rfl rfl
theorem RowOk.set {C:Nat→Nat→Option Value} {sz:Nat} {xs:List AV} {cur:Array Value} (h:RowOk C sz xs cur) {i:Nat} {y:AV} {v:Value} (hi:i<xs.length) (hy:RC C y v)
    (hs:y.solid=true) (hw:y.cells.length=sz):RowOk C sz (xs.set i y) (setRangeA cur (i*sz) v.cells.toList):=by
  have hcl:=hy.cellsL hs
  have hvl:v.cells.toList.length=sz:=by rw [hcl.1,hw]
  have hbig:i*sz+sz≤cur.size:=by
    have:(i+1)*sz≤xs.length*sz:=Nat.mul_le_mul_right _ (by omega)
    rw [Nat.add_mul] at this
    have:=h.le
    omega
  refine ⟨fun x hx=>?_,by rw [setRangeA_size];simpa using h.le,fun k j hk hj=>?_⟩
  ·rcases List.mem_or_eq_of_mem_set hx with hx|rfl
   ·exact h.wid x hx
   ·exact hw
  ·rw [setRangeA_getD _ _ _ _ (by rw [hvl];exact hbig),hvl]
   simp only [List.length_set] at hk
   by_cases e:k=i
   ·subst e
    rw [if_pos (by omega),show k*sz+j - k*sz=j by omega]
    have hx:(xs.set k y).getD k .top=y:=by simp [List.getD,List.getElem?_set_self hi]
    rw [hx]
    have hjy:j<y.cells.length:=by omega
    exact hcl.2 j hjy
   ·have hne: ¬ (i*sz≤k*sz+j∧k*sz+j<i*sz+sz):=by
      rcases Nat.lt_or_gt_of_ne e with hlt|hgt
      ·have:(k+1)*sz≤i*sz:=Nat.mul_le_mul_right _ (by omega)
       rw [Nat.add_mul] at this;omega
      ·have:(i+1)*sz≤k*sz:=Nat.mul_le_mul_right _ (by omega)
       rw [Nat.add_mul] at this;omega
    rw [if_neg hne]
    have hx:(xs.set i y).getD k .top=xs.getD k .top:=by simp [List.getD,List.getElem?_set_ne (Ne.symm e)]
    rw [hx]
    exact h.rel k j hk hj
theorem buildL_sound {sz:Nat}:∀ {parts:List (Nat×AV)} {xs xs':List AV} {cur:Array Value} {vs:List (Nat×Value)},Rel cx G σ w→RowOk G.C sz xs cur→
    cur.size=xs.length*sz→vs.map (·.1)=parts.map (·.1)→(∀ i,i<parts.length→R G (parts.map (·.2)|>.getD i .top) (vs.map (·.2)|>.getD i undef))→
    buildL σ sz xs parts=some xs'→∃ cur',Instr.fill (fun i=>some (i*sz,sz)) cur vs=some cur'∧RowOk G.C sz xs' cur'∧xs'.length=xs.length∧cur'.size=cur.size
  |[],xs,xs',cur,vs,_,hc,_,hv,_,h=>by
   cases h
   have:vs=[]:=by simpa using hv
   subst this
   exact ⟨cur,rfl,hc,rfl,rfl⟩
  |(i,x)::rest,xs,xs',cur,vs,hr,hc,hsz,hv,hR,h=>by
   cases vs with
   |nil=>simp at hv
   |cons u vs=>
    obtain ⟨i',v⟩:=u
    simp only [List.map_cons,List.cons.injEq] at hv
    obtain ⟨rfl,hv⟩:=hv
    simp only [buildL] at h
    split at h
    ·rename_i y hy
     split at h
     ·rename_i hcond
      obtain ⟨h1,h2,h3⟩:=hcond
      have hx:R G x v:=by simpa using hR 0 (by simp)
      have hrc:RC G.C y v:=by simpa using close1_sound (live:=false) hr hx hy
      have hset:=hc.set h3 hrc h1 h2
      obtain ⟨cur',e1,e2,e3,e4⟩:=buildL_sound (vs:=vs) hr hset (by rw [setRangeA_size];simpa using hsz) hv (fun j hj=>by simpa using hR (j+1) (by simpa using hj)) h
      refine ⟨cur',?_,e2,by simpa using e3,by rw [e4,setRangeA_size]⟩
      have hcl:=cellsL (G:=⟨G.C,0,fun _=>undef,fun _=>0⟩) (.clo _ _ hrc) h1
      have hvs:v.cells.size=sz:=by rw [←h2,←hcl.1];simp
      have hbig:i'*sz+sz≤cur.size:=by
        rw [hsz]
        have:(i'+1)*sz≤xs.length*sz:=Nat.mul_le_mul_right _ (by omega)
        rw [Nat.add_mul] at this;omega
      simp only [Instr.fill]
      rw [if_neg (by simp;omega),←e1]
      congr 1
      rw [←Array.foldl_toList,Array.toList_zipIdx]
      exact foldl_setRangeA _ (i'*sz) 0 cur
     ·cases h
    ·cases h
theorem zeroRow {C:Nat→Nat→Option Value} {e:TypeId} {z:Value} {sz n:Nat} (hE:EnvOk P E) (hz:zeroT P e=some z) (hs:(E.zero e).solid=true) (hw:(E.zero e).cells.length=sz):
    RowOk C sz (List.replicate n (E.zero e)) ((Array.range (n*sz)).map (z.cells[·% z.cells.size]!)):=by
  obtain ⟨h1,h2⟩:=zero_cells (G:=⟨C,0,fun _=>undef,fun _=>0⟩) hE hz hs
  refine ⟨fun x hx=>by rw [(List.mem_replicate.1 hx).2];exact hw,by simp,fun i j hi hj=>?_⟩
  simp only [List.length_replicate] at hi
  have hlt:=idx_lt hi hj
  have hx:(List.replicate n (E.zero e)).getD i .top=E.zero e:=by simp [List.getD,hi]
  have hzs:z.cells.size=sz:=by rw [h1,hw]
  have hcur:((Array.range (n*sz)).map (z.cells[·% z.cells.size]!)).getD (i*sz+j) undef=z.cells.getD j undef:=by
    rw [Array.getD_eq_getD_getElem?]
    simp only [Array.getElem?_map,Array.getElem?_range,hlt,if_true,Option.map_some,Option.getD_some,hzs]
    rw [Nat.mul_comm,Nat.mul_add_mod,Nat.mod_eq_of_lt hj]
    have hj':j<z.cells.size:=by omega
    rw [getElem!_pos z.cells j hj']
    simp [hj']
  rw [hx,hcur]
  have hrc:=(hE.zero e z hz).mono (C':=C) (fun _ _ _ h=>by cases h)
  rw [arr_getD]
  exact (hrc.cellsL hs).2 j (by omega)
end Go.Fw

namespace Go.Fw
open Go
set_option linter.unusedSectionVars false
variable [TB]
variable {P:Program} {E:Env} {cx:Cx} {G:Gh} {σ:List AObj} {w:World}
theorem buildSliceV_sound (hE:EnvOk P E) (hr:Rel cx G σ w) {t:TypeId} {len:Nat} {parts:List (Nat×AV)} {vs:List (Nat×Value)} {y:AV} {p:Prop} (hv:vs.map (·.1)=parts.map (·.1))
    (hR:∀ i,i<parts.length→R G (parts.map (·.2)|>.getD i .top) (vs.map (·.2)|>.getD i undef)) (h:buildSliceV P E σ t len parts=some (p,y)):
    ∃ r w' G',(Instr.buildSlice t len vs.toArray).run P w= .ok r w'∧G.le G'∧Rel cx G' σ w'∧R G' y r:=by
  unfold buildSliceV at h
  split at h
  ·rename_i e hu
   split at h
   ·rename_i hc
    obtain ⟨hs,hw,hle,hpos,he,hz⟩:=hc
    obtain ⟨z,hz⟩:=Option.isSome_iff_exists.1 hz
    obtain ⟨de,hde⟩:=Option.isSome_iff_exists.1 he
    simp only [Option.map_eq_some_iff,Prod.mk.injEq] at h
    obtain ⟨xs,h1,_,rfl⟩:=h
    have hz0:=zeroRow (C:=G.C) (n:=len) hE hz hs hw
    obtain ⟨cur,e1,e2,e3,e4⟩:=buildL_sound (vs:=vs) hr hz0 (by simp) hv hR h1
    simp only [List.length_replicate] at e3
    have hnew:=hr.newRow cur e (0,0)
    have hmax:len≤maxLen:=by
      have:len*1≤len*szT P e:=Nat.mul_le_mul_left _ hpos
      simp only [maxLen];omega
    refine ⟨.slice (some ⟨w.heap.size,0,none⟩) len len,_,_,?_,hnew.1,hnew.2,.clo _ _ ?_⟩
    ·obtain ⟨i,hi,hi1,hi2,hi3⟩:=run_info (P:=P) hde
     have hzv:(zeroValue e).run P w= .ok z w:=by simp [zeroValue,typeInfo,hi,hi3,hz]
     by_cases h0:len*szT P e=0
     ·have hcur:Array.map (fun x=>(#[]:Array Value)[x % (#[]:Array Value).size]!) (Array.range (len*szT P e))=Array.map (fun x=>z.cells[x % z.cells.size]!) (Array.range (len*szT P e)):=by
        rw [h0];simp
      simp only [Instr.buildSlice,Sem.run_bind,run_und hu,Result.andThen_ok,run_size hde]
      rw [if_neg (by omega),if_pos h0]
      simp only [Sem.run_bind,Sem.run_pure,Result.andThen_ok]
      rw [hcur,e1]
      simp [newRow]
     ·simp only [Instr.buildSlice,Sem.run_bind,run_und hu,Result.andThen_ok,run_size hde]
      rw [if_neg (by omega),if_neg h0]
      simp only [Sem.run_bind,Sem.run_pure,Result.andThen_ok,hzv]
      rw [e1]
      simp [newRow]
    ·rw [←e3]
     exact (e2.mono hnew.1.C).sl true _ _ (Nat.le_refl _) (by rw [e3];exact hmax) (fun _=>rfl) (fun j=>by simp [addC])
   ·cases h
  ·cases h
theorem appT_spec {ats:Array TypeId} {e:TypeId} (h:appT P ats=some e):∃ (t u:TypeId) (d:TypeDesc) (i:TypeInfo) (z:Value),ats[0]? =some t∧ats[1]? =some u∧P.underlying t=some (.slice e)∧
    P.underlying u=some d∧(∀ k,d≠ .int k)∧P.info? e=some i∧i.size=szT P e∧i.bytes=byT P e∧i.zero=some z∧zeroT P e=some z∧0<szT P e∧0<byT P e∧z.cells.size=szT P e:=by
  unfold appT at h
  have key:∀ e',0<szT P e'∧0<byT P e'∧zOk P e'=true→∃ (i:TypeInfo) (z:Value),P.info? e'=some i∧i.size=szT P e'∧i.bytes=byT P e'∧i.zero=some z∧zeroT P e'=some z∧0<szT P e'∧0<byT P e'∧z.cells.size=szT P e':=by
    intro e' ⟨h1,h2,h3⟩
    obtain ⟨z,hz,hzs⟩:∃ z,zeroT P e'=some z∧z.cells.size=szT P e':=by
      unfold zOk at h3
      split at h3
      ·rename_i z hz;exact ⟨z,hz,by simpa using h3⟩
      ·cases h3
    cases hi:P.info? e' with
    |none=>simp [szT,hi] at h1
    |some i=>exact ⟨i,z,rfl,by simp [szT,hi],by simp [byT,hi],by simpa [zeroT,hi] using hz,hz,h1,h2,hzs⟩
  split at h
  ·rename_i t u h0 h1
   split at h
   ·rename_i e' e'' ht hu
    split at h
    ·rename_i hc
     cases h
     obtain ⟨i,z,hh⟩:=key _ hc
     exact ⟨t,u,_,i,z,h0,h1,ht,hu,(by intro k e;cases e),hh⟩
    ·cases h
   ·rename_i e' ht hu
    split at h
    ·rename_i hc
     cases h
     obtain ⟨i,z,hh⟩:=key _ hc
     exact ⟨t,u,_,i,z,h0,h1,ht,hu,(by intro k e;cases e),hh⟩
    ·cases h
   ·cases h
  ·cases h
structure Src (P:Program) (w:World) (sz:Nat) (x:Value) (m:Nat) (news:Array Value):Prop where
  len:∀ w',(Builtin.lenOf x).run P w'= .ok m w'
  cells:∀ w':World,w'.heap=w.heap→(Builtin.firstCells sz m x).run P w'= .ok news w'
theorem slOf_cells0 {o0 ver0:Nat} {v:Value} {sz:Nat} {xs:List AV} (hr:Rel cx G σ w) (hx:R G (.arr o0 ver0) v) (h:getObj? σ o0 ver0=some (sz,xs)):
    (xs=[]∧∃ a cap,v= .slice a 0 cap)∨∃ b off cap,∃ f:Nat→Value,v= .slice (some ⟨b,off,none⟩) xs.length cap∧(∀ x∈xs,x.cells.length=sz)∧
      (∀ j,j<(flat xs).length→w.cell? ⟨b,off+j,none⟩=some (f j))∧(∀ j,j<(flat xs).length→(f j).oneCell'=true)∧
      (∀ j,j<(flat xs).length→RC G.C ((flat xs).getD j .top) (f j)):=by
  have closed:∀ {full:Bool},RC G.C (.sl full sz xs) v→(xs=[]∧∃ a cap,v= .slice a 0 cap)∨∃ b off cap,∃ f:Nat→Value,v= .slice (some ⟨b,off,none⟩) xs.length cap∧(∀ x∈xs,x.cells.length=sz)∧
    (∀ j,j<(flat xs).length→w.cell? ⟨b,off+j,none⟩=some (f j))∧(∀ j,j<(flat xs).length→(f j).oneCell'=true)∧
    (∀ j,j<(flat xs).length→RC G.C ((flat xs).getD j .top) (f j)):=by
    intro full hrc
    cases hrc with
    |nil _ _ a=>exact .inl ⟨rfl,a,0,rfl⟩
    |sl _ _ _ b off cap f hc hm hf hw hC h1 hR=>exact .inr ⟨b,off,cap,f,rfl,hw,fun j hj=>hr.cell _ _ _ (hC j hj),h1,hR⟩
  obtain ⟨e,fz,ho,rfl,hok⟩:=R.of_getObj hr h hx
  have h3:=hok.2.2
  cases fz with
  |true=>exact closed h3
  |false=>
   simp only [Bool.false_eq_true,if_false] at h3
   rcases h3 with ⟨rfl,a,ha⟩|⟨g,cap,cur,ha⟩
   ·exact .inl ⟨rfl,a,0,ha⟩
   ·refine .inr ⟨g,0,cap,fun j=>cur.getD j undef,ha.v,ha.wid,fun j hj=>?_,ha.one,ha.rel⟩
    rw [flat_length ha.wid] at hj
    rw [Nat.zero_add]
    exact ha.blk.cellD (by rw [ha.size];exact Nat.lt_of_lt_of_le hj (Nat.mul_le_mul_right _ ha.le))
theorem slOf_cells {x:AV} {v:Value} {sz:Nat} {xs:List AV} (hr:Rel cx G σ w) (hx:R G x v) (h:slOf σ x=some (sz,xs)):
    (xs=[]∧∃ a cap,v= .slice a 0 cap)∨∃ b off cap,∃ f:Nat→Value,v= .slice (some ⟨b,off,none⟩) xs.length cap∧(∀ x∈xs,x.cells.length=sz)∧
      (∀ j,j<(flat xs).length→w.cell? ⟨b,off+j,none⟩=some (f j))∧(∀ j,j<(flat xs).length→(f j).oneCell'=true)∧
      (∀ j,j<(flat xs).length→RC G.C ((flat xs).getD j .top) (f j)):=by
  have closed:∀ {full:Bool},RC G.C (.sl full sz xs) v→(xs=[]∧∃ a cap,v= .slice a 0 cap)∨∃ b off cap,∃ f:Nat→Value,v= .slice (some ⟨b,off,none⟩) xs.length cap∧(∀ x∈xs,x.cells.length=sz)∧
    (∀ j,j<(flat xs).length→w.cell? ⟨b,off+j,none⟩=some (f j))∧(∀ j,j<(flat xs).length→(f j).oneCell'=true)∧
    (∀ j,j<(flat xs).length→RC G.C ((flat xs).getD j .top) (f j)):=by
    intro full hrc
    cases hrc with
    |nil _ _ a=>exact .inl ⟨rfl,a,0,rfl⟩
    |sl _ _ _ b off cap f hc hm hf hw hC h1 hR=>exact .inr ⟨b,off,cap,f,rfl,hw,fun j hj=>hr.cell _ _ _ (hC j hj),h1,hR⟩
  unfold slOf at h
  split at h
  ·cases h;exact closed hx.sl_inv
  ·obtain ⟨e,fz,ho,rfl,hok⟩:=R.of_getObj hr h hx
   have h3:=hok.2.2
   cases fz with
   |true=>exact closed h3
   |false=>
    simp only [Bool.false_eq_true,if_false] at h3
    rcases h3 with ⟨rfl,a,ha⟩|⟨g,cap,cur,ha⟩
    ·exact .inl ⟨rfl,a,0,ha⟩
    ·refine .inr ⟨g,0,cap,fun j=>cur.getD j undef,ha.v,ha.wid,fun j hj=>?_,ha.one,ha.rel⟩
     rw [flat_length ha.wid] at hj
     rw [Nat.zero_add]
     exact ha.blk.cellD (by rw [ha.size];exact Nat.lt_of_lt_of_le hj (Nat.mul_le_mul_right _ ha.le))
  ·rename_i o ver sz0 lo hi
   split at h
   ·rename_i sz' xs0 hg
    split at h
    ·rename_i hs
     subst hs
     simp only [Option.some.injEq,Prod.mk.injEq] at h
     obtain ⟨rfl,rfl⟩:=h
     have hver:=getObj_ver hr hg
     have hinv:=hx.sub_inv
     have hsub:=hinv.2.2 hver
     have hslo:∃ a n c,G.b o= .slice a n c:=by
       obtain ⟨_,⟨_,_,a,hb,_⟩|⟨g,n,cap,off,_,_,_,hb,_⟩⟩:=hsub
       ·exact ⟨_,_,_,hb⟩
       ·exact ⟨_,_,_,hb⟩
     have hbase:=slOf_cells0 hr (R.arr o ver (G.b o) hinv.1 hinv.2.1 (fun _=>rfl) hslo) hg
     obtain ⟨hle,⟨rfl,rfl,a,hb,rfl⟩|⟨g,n,cap,off,k1,k2,k3,hb,rfl,k4⟩⟩:=hsub
     ·exact .inl ⟨by simp,a,0,rfl⟩
     ·rcases hbase with ⟨rfl,a,c,hb'⟩|⟨b',off',cap',f,hb',hw,hC,h1,hR⟩
      ·rw [hb] at hb'
       simp at hb'
       refine .inl ⟨by simp,some ⟨g,off,none⟩,cap - lo,?_⟩
       rw [show hi - lo=0 by omega]
      ·rw [hb] at hb'
       simp only [Value.slice.injEq,Option.some.injEq,Addr.mk.injEq] at hb'
       obtain ⟨⟨rfl,rfl,_⟩,rfl,rfl⟩:=hb'
       by_cases e:lo=hi
       ·subst e
        refine .inl ⟨List.drop_eq_nil_of_le (by simp;omega),some ⟨g,off,none⟩,cap - lo,?_⟩
        rw [Nat.sub_self]
       ·have hlen:((xs0.take hi).drop lo).length=hi - lo:=by simp;omega
        refine .inr ⟨g,lo*sz0,cap - lo,fun j=>f (lo*sz0+j),?_,fun x hx=>hw x (List.mem_of_mem_take (List.mem_of_mem_drop hx)),fun j hj=>?_,fun j hj=>h1 _ (flat_drop hw lo hi k1 j hj).1,fun j hj=>?_⟩
        ·rw [hlen,k4 (by omega)]
        ·have:=hC _ (flat_drop hw lo hi k1 j hj).1
         rwa [Nat.zero_add] at this
        ·rw [(flat_drop hw lo hi k1 j hj).2];exact hR _ (flat_drop hw lo hi k1 j hj).1
    ·cases h
   ·cases h
  ·cases h
theorem srcOf_sound {x:AV} {v:Value} {sz sz':Nat} {ys:List AV} (hr:Rel cx G σ w) (hx:R G x v) (h:srcOf σ x=some (sz',ys)) (hsz:sz'=sz∨ys=[]):
    ∃ news,Src P w sz v ys.length news∧RowOk G.C sz ys news∧news.size=ys.length*sz:=by
  have same:∀ {w':World} (_:w'.heap=w.heap) (a:Addr),w'.cell? a=w.cell? a:=fun h a=>by simp [World.cell?,h]
  unfold srcOf at h
  split at h
  ·cases h
   rw [hx.lit_inv]
   exact ⟨#[],⟨fun w'=>by simp [Builtin.lenOf],fun w' _=>by simp [Builtin.firstCells]⟩,⟨by simp,by simp,by simp⟩,by simp⟩
  ·rename_i s
   cases h
   rw [hx.lit_inv]
   have hlen:(u8s s).length=s.size:=by simp [u8s]
   have hw1:∀ y∈u8s s,y.cells.length=1:=by intro y hy;simp [u8s] at hy;obtain ⟨b,_,rfl⟩:=hy;rfl
   have hflat:flat (u8s s)=u8s s:=flat_lits _ _
   by_cases hn:u8s s=[]
   ·rw [hn] at hlen
    have hs0:s.size=0:=by simpa using hlen.symm
    refine ⟨#[],⟨fun w'=>by simp [Builtin.lenOf,hn,hs0],fun w' _=>?_⟩,⟨by simp [hn],by simp [hn],by simp [hn]⟩,by simp [hn]⟩
    have:(s.extract 0 0).data= #[]:=by
      apply Array.eq_empty_of_size_eq_zero
      have:(s.extract 0 0).size=0:=by simp [ByteArray.size_extract]
      exact this
    simp [Builtin.firstCells,hn,this]
   ·have h1:sz=1:=by rcases hsz with h|h;exact h.symm;exact absurd h hn
    subst h1
    refine ⟨s.data.map fun b=> .int .u8 b.toNat,⟨fun w'=>by simp [Builtin.lenOf,hlen],fun w' _=>?_⟩,RowOk.of_flat hw1 (by simp [hlen]) (fun j hj=>?_),by simp [hlen]⟩
    ·have hex:(s.extract 0 s.size)=s:=ByteArray.extract_zero_size
     simp [Builtin.firstCells,hlen,hex]
    ·rw [hflat] at hj ⊢
     rw [hlen] at hj
     have hj':j<s.data.size:=hj
     have e1:(u8s s).getD j .top= .lit (.int .u8 (s.data[j].toNat:Int)):=by
       have:j<(u8s s).length:=by rw [hlen];exact hj
       rw [getD_elem _ _ this]
       simp [u8s]
     have e2:(s.data.map fun b=>Value.int .u8 b.toNat).getD j undef= .int .u8 (s.data[j].toNat:Int):=by
       simp [Array.getElem?_eq_getElem hj']
     rw [e1,e2]
     exact ⟨.lit _,rfl⟩
  ·rcases slOf_cells hr hx h with ⟨rfl,a,cap,rfl⟩|⟨b,off,cap,f,rfl,hw,hC,h1,hR⟩
   ·refine ⟨#[],⟨fun w'=>by simp [Builtin.lenOf],fun w' hh=>?_⟩,⟨by simp,by simp,by simp⟩,by simp⟩
    cases a with
    |none=>simp [Builtin.firstCells]
    |some a=>simp [Builtin.firstCells,loadCells,loadCellsFrom]
   ·have hsz':ys=[]∨sz'=sz:=hsz.symm
    have hfl:=flat_length hw
    have hrun:∀ (n:Nat) (w':World),n≤(flat ys).length→w'.heap=w.heap→(loadCells ⟨b,off,none⟩ n).run P w'= .ok ((List.range n).map f).toArray w':=fun n w' hn hh=>
      loadCells_run b off n f (fun j hj=>by rw [same hh];exact hC j (by omega))
    rcases hsz' with rfl|rfl
    ·refine ⟨#[],⟨fun w'=>by simp [Builtin.lenOf],fun w' hh=>?_⟩,⟨by simp,by simp,by simp⟩,by simp⟩
     have:=hrun 0 w' (by simp) hh
     simpa [Builtin.firstCells] using this
    ·refine ⟨((List.range (ys.length*sz')).map f).toArray,⟨fun w'=>by simp [Builtin.lenOf],fun w' hh=>?_⟩,RowOk.of_flat hw (by simp) (fun j hj=>?_),by simp⟩
     ·have:=hrun (ys.length*sz') w' (by rw [hfl];exact Nat.le_refl _) hh
      simpa [Builtin.firstCells] using this
     ·have hj':j<ys.length*sz':=by rw [←hfl];exact hj
      have e2:(((List.range (ys.length*sz')).map f).toArray).getD j undef=f j:=by simp [hj']
      rw [e2]
      exact ⟨hR j hj,h1 j hj⟩
theorem run_app_grow {ats:Array TypeId} {e:TypeId} (ha:appT P ats=some e) (ty:TypeId) {a:Option Addr} {n cap m:Nat} {x:Value} {olds news:Array Value}
    (hs:Src P w (szT P e) (.slice a n cap) n olds) (hx:Src P w (szT P e) x m news) (hgrow:cap<n+m) (hby:(n+m)*byT P e≤140737488355328):
    ∃ z,(zeroT P e=some z∧z.cells.size=szT P e)∧∃ newCap,n+m≤newCap∧newCap≤maxLen∧
      (Builtin.append_ ats ty #[.slice a n cap,x]).run P w= .ok (.slice (some ⟨w.heap.size,0,none⟩) (n+m) newCap)
        {w.drew with heap:=w.heap.push (.cells (olds++news++Builtin.zeroCells z.cells (newCap - (n+m))) e)}:=by
  obtain ⟨t,u,d,i,z,h0,h1,ht,hu,hd,hi,hi1,hi2,hi3,hz,hsz,hbp,hzs⟩:=appT_spec ha
  have hnm:n+m≤140737488355328:=by
    have:(n+m)*1≤(n+m)*byT P e:=Nat.mul_le_mul_left _ hbp
    omega
  have hmax:n+m≤maxLen:=by simp only [maxLen];omega
  refine ⟨z,⟨hz,hzs⟩,grownCap w (n+m) cap e,grownCap_ge _ _ _ _,grownCap_le_maxLen _ _ _ _ hmax,?_⟩
  have hmatch:(match d with|.int k=>true|_=>false)=false:=by
    cases d with
    |int k=>exact absurd rfl (hd k)
    |_=>rfl
  have hsize:∀ w':World,(sizeOf e).run P w'= .ok (szT P e) w':=fun w'=>szT_info (Nat.ne_of_gt hsz)
  have hinfo:∀ w':World,(typeInfo e).run P w'= .ok i w':=fun w'=>by simp [typeInfo,hi]
  have hroom: ¬ n+m≤cap:=by omega
  have hnogrow: ¬ (Builtin.nextslicecap (n+m) cap*i.bytes>2 ^ 48):=by
    rw [hi2]
    have:=growslice_fits hgrow hby
    omega
  have hsmall: ¬ (((n+m:Nat):Int)>IntKind.i64.max∧(False∨i.bytes=0)):=by
    intro h;rcases h.2 with h|h;exact h;omega
  have hz':(zeroValue e).run P w.drew= .ok z w.drew:=by simp [zeroValue,typeInfo,hi,hi3]
  have hold:=hs.cells w.drew rfl
  have hnew:=hx.cells w.drew rfl
  unfold Builtin.append_
  simp only [h0,h1,List.getElem?_toArray,List.getElem?_cons_zero,List.getElem?_cons_succ,Sem.run_bind,run_und ht,Result.andThen_ok]
  simp only [hsize,run_und hu,Result.andThen_ok,Sem.run_pure,hmatch,Bool.false_eq_true,if_false,Sem.run_bind,hx.len,hroom,hinfo,hsmall,hnogrow,run_choose,Question.forced,
    run_askRoom,Bool.not_false,if_true]
  have hd:({w with drawn:=w.drawn+1}:World)=w.drew:=rfl
  rw [hd,hold]
  simp only [Result.andThen_ok,hnew,hz']
  rfl
theorem run_app_same {ats:Array TypeId} {e:TypeId} (ha:appT P ats=some e) (ty:TypeId) {a:Option Addr} {n cap:Nat} {x:Value} {news:Array Value}
    (hx:Src P w (szT P e) x 0 news) (hnews:news.size=0) (hc:n≤cap):(Builtin.append_ ats ty #[.slice a n cap,x]).run P w= .ok (.slice a n cap) w:=by
  obtain ⟨t,u,d,i,z,h0,h1,ht,hu,hd,hi,hi1,hi2,hi3,hz,hsz,hbp,hzs⟩:=appT_spec ha
  have hmatch:(match d with|.int k=>true|_=>false)=false:=by
    cases d with
    |int k=>exact absurd rfl (hd k)
    |_=>rfl
  have hsize:∀ w':World,(sizeOf e).run P w'= .ok (szT P e) w':=fun w'=>szT_info (Nat.ne_of_gt hsz)
  have hnew:=hx.cells w rfl
  have hne:news= #[]:=Array.eq_empty_of_size_eq_zero hnews
  unfold Builtin.append_
  simp only [h0,h1,List.getElem?_toArray,List.getElem?_cons_zero,List.getElem?_cons_succ,Sem.run_bind,run_und ht,Result.andThen_ok]
  simp only [hsize,run_und hu,Result.andThen_ok,Sem.run_pure,hmatch,Bool.false_eq_true,if_false,Sem.run_bind,hx.len,Nat.add_zero,hc,if_true,Bool.not_false,hnew]
  cases a with
  |none=>rfl
  |some a=>simp [hne,storeCells]
theorem RowOk.app {C:Nat→Nat→Option Value} {sz:Nat} {xs ys:List AV} {olds news rest:Array Value} (h:RowOk C sz xs olds) (k:RowOk C sz ys news) (hs:olds.size=xs.length*sz) (ks:news.size=ys.length*sz):
    RowOk C sz (xs++ys) (olds++news++rest):=by
  refine ⟨fun x hx=>?_,by simp [hs,ks,Nat.add_mul],fun i j hi hj=>?_⟩
  ·rcases List.mem_append.1 hx with hx|hx
   ·exact h.wid x hx
   ·exact k.wid x hx
  ·by_cases e:i<xs.length
   ·have hlt:i*sz+j<olds.size:=by rw [hs];exact idx_lt e hj
    have e1:(olds++news++rest).getD (i*sz+j) undef=olds.getD (i*sz+j) undef:=by
      rw [Array.getD_eq_getD_getElem?,Array.getD_eq_getD_getElem?,Array.append_assoc,Array.getElem?_append_left hlt]
    rw [getD_app_left _ _ _ e,e1]
    exact h.rel i j e hj
   ·simp only [List.length_append] at hi
    have hge:olds.size≤i*sz+j:=by
      rw [hs]
      have:xs.length*sz≤i*sz:=Nat.mul_le_mul_right _ (by omega)
      omega
    have e2:i*sz+j - olds.size=(i - xs.length)*sz+j:=by
      have:i*sz=(i - xs.length)*sz+xs.length*sz:=by rw [←Nat.add_mul];congr 1;omega
      rw [hs];omega
    have hlt:(i - xs.length)*sz+j<news.size:=by rw [ks];exact idx_lt (by omega) hj
    have e1:(olds++news++rest).getD (i*sz+j) undef=news.getD ((i - xs.length)*sz+j) undef:=by
      rw [Array.getD_eq_getD_getElem?,Array.getD_eq_getD_getElem?,Array.append_assoc,Array.getElem?_append_right hge,e2,Array.getElem?_append_left hlt]
    rw [getD_app_right _ _ _ (by omega),e1]
    exact k.rel (i - xs.length) j (by omega) hj
theorem app_closed (hr:Rel cx G σ w) {ats:Array TypeId} {e:TypeId} (ha:appT P ats=some e) (ty:TypeId) {a:Option Addr} {cap:Nat} {x:Value} {olds news:Array Value} {xs ys:List AV}
    (hs:Src P w (szT P e) (.slice a xs.length cap) xs.length olds) (hro:RowOk G.C (szT P e) xs olds) (hos:olds.size=xs.length*szT P e)
    (hx:Src P w (szT P e) x ys.length news) (hrn:RowOk G.C (szT P e) ys news) (hns:news.size=ys.length*szT P e)
    (hgrow:cap<xs.length+ys.length) (hby:(xs.length+ys.length)*byT P e≤140737488355328):
    ∃ r w' G',(Builtin.append_ ats ty #[.slice a xs.length cap,x]).run P w= .ok r w'∧G.le G'∧Rel cx G' σ w'∧R G' (.sl false (szT P e) (xs++ys)) r:=by
  obtain ⟨z,hz,newCap,h1,h2,hrun⟩:=run_app_grow ha ty hs hx hgrow hby
  have hnew:=hr.newRow (olds++news++Builtin.zeroCells z.cells (newCap - (xs.length+ys.length))) e (0,0)
  refine ⟨_,_,_,hrun,hnew.1,hnew.2.more (More.drawn _ (w.drawn+1)),?_⟩
  have hrow:=((hro.app hrn hos hns (rest:=Builtin.zeroCells z.cells (newCap - (xs.length+ys.length)))).mono hnew.1.C).sl false w.heap.size newCap (by simpa using h1) h2 (by simp) (fun j=>by simp [addC])
  simp only [List.length_append] at hrow
  exact .clo _ _ hrow
theorem pappV_sound (hr:Rel cx G σ w) {ats:Array TypeId} {s x y:AV} {vs vx:Value} {p:Prop} {ty:TypeId} (hs:R G s vs) (hx:R G x vx) (h:pappV P σ ats s x=some (p,y)) (hp:p):
    ∃ r w' G',(Builtin.append_ ats ty #[vs,vx]).run P w= .ok r w'∧G.le G'∧Rel cx G' σ w'∧R G' y r:=by
  unfold pappV at h
  split at h
  ·rename_i e sz' ys ha hsrc
   split at h
   ·rename_i s'
    split at h
    ·rename_i hsz
     cases h
     rw [hs.lit_inv]
     obtain ⟨news,k1,k2,k3⟩:=srcOf_sound (sz:=szT P e) (P:=P) hr hx hsrc hsz
     by_cases hn:ys.length=0
     ·have hy:ys=[]:=List.eq_nil_of_length_eq_zero hn
      subst hy
      exact ⟨_,w,G,run_app_same ha ty (by simpa using k1) (by simpa using k3) (Nat.le_refl _),Gh.le.refl G,hr,.clo _ _ (.nil _ _ _)⟩
     ·have hnil:Src P w (szT P e) (.slice none 0 0) 0 #[]:=⟨fun w'=>by simp [Builtin.lenOf],fun w' _=>by simp [Builtin.firstCells]⟩
      have:=app_closed hr ha ty (xs:=[]) (a:=none) (cap:=0) hnil ⟨by simp,by simp,by simp⟩ (by simp) k1 k2 k3 (by simp;omega) (by simpa using hp)
      simpa using this
    ·cases h
   ·rename_i s' sz xs
    split at h
    ·rename_i hcond
     obtain ⟨hsz,rfl⟩:=hcond
     cases h
     obtain ⟨hp1,hp2⟩:=hp
     obtain ⟨news,k1,k2,k3⟩:=srcOf_sound (sz:=szT P e) (P:=P) hr hx hsrc hsz
     obtain ⟨olds,o1,o2,o3⟩:=srcOf_sound (sz:=szT P e) (P:=P) hr hs (sz':=szT P e) (ys:=xs) (by simp [srcOf,slOf]) (.inl rfl)
     have hcap:∃ a cap,vs= .slice a xs.length cap∧cap=xs.length:=by
       cases hs.sl_inv with
       |nil _ _ a=>exact ⟨a,0,rfl,rfl⟩
       |sl _ _ _ b off cap f hc hm hf=>exact ⟨_,cap,rfl,hf rfl⟩
     obtain ⟨a,cap,rfl,rfl⟩:=hcap
     by_cases hn:ys.length=0
     ·have hy:ys=[]:=List.eq_nil_of_length_eq_zero hn
      subst hy
      have hx0:xs=[]:=by rcases hp1 with h|h;exact h;simp at h
      subst hx0
      refine ⟨_,w,G,run_app_same ha ty (by simpa using k1) (by simpa using k3) (Nat.le_refl _),Gh.le.refl G,hr,?_⟩
      cases hs.sl_inv with
      |nil=>exact .clo _ _ (.nil _ _ _)
      |sl _ _ _ b off _ f hc hm hf=>exact .clo _ _ empty_sl
     ·exact app_closed hr ha ty o1 o2 o3 k1 k2 k3 (by omega) hp2
    ·cases h
   ·cases h
  ·cases h
theorem subOf_mono {o ver sz lo hi:Nat} {y:AV} (h:subOf false σ o ver sz lo hi=some y):subOf true σ o ver sz lo hi=some y:=by
  unfold subOf at h ⊢
  split at h
  ·split at h
   ·rename_i hv;rw [if_pos ⟨hv.1,hv.2.1,.inr rfl⟩];exact h
   ·cases h
  ·cases h
theorem arrOf_mono {o ver:Nat} {y:AV} (h:arrOf false σ o ver=some y):arrOf true σ o ver=some y:=by
  unfold arrOf at h ⊢
  split at h
  ·split at h
   ·rename_i hv;rw [if_pos ⟨hv.1,.inr rfl⟩];exact h
   ·cases h
  ·cases h
theorem close0_mono {x y:AV} (h:close0 false σ x=some y):close0 true σ x=some y:=by
  cases x with
  |arr o ver=>exact arrOf_mono h
  |sub o ver sz lo hi=>exact subOf_mono h
  |fn f xs ys=>cases xs<;>cases ys<;>first|exact h|cases h
  |_=>first|exact h|cases h
theorem closeL0_mono:∀ {xs ys:List AV},closeL0 false σ xs=some ys→closeL0 true σ xs=some ys
  |[],ys,h=>h
  |x::xs,ys,h=>by
   simp only [closeL0] at h ⊢
   split at h
   ·rename_i y ys' h1 h2;rw [close0_mono h1,closeL0_mono h2];exact h
   ·cases h
theorem close1_mono {x y:AV} (h:close1 false σ x=some y):close1 true σ x=some y:=by
  cases x with
  |agg xs=>
   simp only [close1,Option.map_eq_some_iff] at h ⊢
   obtain ⟨ys,h1,h2⟩:=h
   exact ⟨ys,closeL0_mono h1,h2⟩
  |_=>simp only [close1] at h ⊢;exact close0_mono h
theorem closeL1_mono:∀ {xs ys:List AV},closeL1 false σ xs=some ys→closeL1 true σ xs=some ys
  |[],ys,h=>h
  |x::xs,ys,h=>by
   simp only [closeL1] at h ⊢
   split at h
   ·rename_i y ys' h1 h2;rw [close1_mono h1,closeL1_mono h2];exact h
   ·cases h
theorem callFunc_run {f:FuncId} (h:fok P f=true) (args:Array Value):(callFunc f args).run P w= .ok (.enter f args) w:=by
  unfold fok at h
  cases hf:P.funcs[f]? with
  |none=>rw [hf] at h;cases h
  |some fn=>
   rw [hf] at h
   simp only [Bool.and_eq_true,bne_iff_ne,ne_eq,Option.isSome_iff_ne_none] at h
   have hb:fn.body.isNone=false:=by
     cases hb:fn.body with
     |none=>exact absurd hb h.2
     |some c=>rfl
   simp [callFunc,hf,h.1]
   intro hn;exact absurd hn h.2
theorem call_yield' {f:AV} {vf:Value} {args:List AV} {vs:List Value} {g:FuncId} {args':List AV} (hf:R G f vf) (hl:RLG G args vs) (ht:targetOf f args=some (g,args')):
    ∃ vs',RLG G args' vs'∧∀ (c:Call) (ty:TypeId) (ρ:Operand→Value) (fo:Operand),c.callee= .value fo→ρ fo=vf→(c.args.map ρ).toList=vs→
      (do let d←resolve ρ c ty;invoke d.target d.args:Sem Next).run P w=(callFunc g vs'.toArray).run P w:=by
  unfold targetOf at ht
  split at ht
  ·rename_i g' xs ys
   simp only [Option.some.injEq,Prod.mk.injEq] at ht
   obtain ⟨rfl,rfl⟩:=ht
   obtain ⟨us,ws,rfl,⟨h1,h2⟩,h3,h4⟩:=hf.fn_inv
   refine ⟨us++vs++ws,⟨by simp [h1,hl.1,h3],fun i hi=>?_⟩,?_⟩
   ·by_cases e1:i<xs.length
    ·rw [getD_app_left _ _ _ (by simp;omega),getD_app_left _ _ _ e1,getD_app_left _ _ _ (by simp;omega),getD_app_left _ _ _ (by omega)]
     exact h2 i e1
    ·by_cases e2:i<xs.length+args.length
     ·rw [getD_app_left _ _ _ (by simp;omega),getD_app_right _ _ _ (by omega),getD_app_left _ _ _ (by simp [hl.1];omega),getD_app_right _ _ _ (by omega),h1]
      exact hl.2 _ (by omega)
     ·simp only [List.length_append] at hi
      rw [getD_app_right _ _ _ (by simp;omega),getD_app_right _ _ _ (by simp [hl.1];omega)]
      simp only [List.length_append,h1,hl.1]
      exact h4 _ (by omega)
   ·intro c ty ρ fo hc hρ hv
    have hargs:c.args.map ρ=vs.toArray:=by rw [←hv]
    simp only [resolve,hc,hρ,hargs,Deferred.ofValue,Sem.run_bind,Sem.run_pure,Result.andThen_ok,invoke]
    simp
  ·cases ht
theorem call_yield {f:AV} {vf:Value} {args:List AV} {vs:List Value} {g:FuncId} {args':List AV} (hf:R G f vf) (hl:RLG G args vs) (ht:targetOf f args=some (g,args')) (hok:fok P g=true):
    ∃ vs',RLG G args' vs'∧∀ (c:Call) (ty:TypeId) (ρ:Operand→Value) (fo:Operand),c.callee= .value fo→ρ fo=vf→(c.args.map ρ).toList=vs→
      (do let d←resolve ρ c ty;invoke d.target d.args:Sem Next).run P w= .ok (.enter g vs'.toArray) w:=by
  obtain ⟨vs',h1,h2⟩:=call_yield' (P:=P) (w:=w) hf hl ht
  exact ⟨vs',h1,fun c ty ρ fo hc hρ hv=>by rw [h2 c ty ρ fo hc hρ hv,callFunc_run hok]⟩
theorem callV_sound (hE:EnvOk P E) (hr:Rel cx G σ w) {f:AV} {vf:Value} {args:List AV} {vs:List Value} {p:Prop} {r:AV} (hf:R G f vf) (hl:RLG G args vs)
    (h:callV E σ f args=some (p,r)) (hp:p) (c:Call) (ty:TypeId) (ρ:Operand→Value) (fo:Operand) (hc:c.callee= .value fo) (hρ:ρ fo=vf) (hv:(c.args.map ρ).toList=vs):
    Yield P cx G (fun y σ'=>y=r∧σ'=σ) ((do let d←resolve ρ c ty;invoke d.target d.args:Sem Next).run P w):=by
  unfold callV at h
  split at h
  ·rename_i g args' ht
   split at h
   ·rename_i args'' hcl
    split at h
    ·rename_i p' r' hpc
     split at h
     ·rename_i hsc
      simp only [Option.some.injEq,Prod.mk.injEq] at h
      obtain ⟨rfl,rfl⟩:=h
      rcases hE.pc g args'' _ _ hpc hp with ⟨hok,hPC⟩|hX
      ·skip
       obtain ⟨vs',hl',hrun⟩:=call_yield (P:=P) (w:=w) hf hl ht hok
       rw [hrun c ty ρ fo hc hρ hv]
       show Calls P g vs'.toArray w _
       by_cases hs:scal2 r'=true
       ·have hrl:=closeL1_sound (live:=true) hr hl' hcl
        refine (hPC (allC w) w vs' hrl ⟨fun k o u h=>h,hr.inW.2⟩).mono ?_
        rintro e w' ⟨v,C',rfl,_,hrc,_,hm,_⟩
        exact ⟨G,σ,r',Gh.le.refl G,hr.more hm,.clo _ _ (scal2_rc hrc hs),rfl,rfl⟩
       ·have hcl':(closeL1 false σ args').isSome=true:=by simpa [hs] using hsc
        obtain ⟨a3,h3⟩:=Option.isSome_iff_exists.1 hcl'
        have:=closeL1_mono h3
        rw [hcl] at this
        cases this
        have hrl:=closeL1_sound (live:=false) hr hl' h3
        refine (hPC G.C w vs' hrl hr.inW).mono ?_
        rintro e w' ⟨v,C',rfl,hC,hrc,hin,hm,hag⟩
        have hcm:=(hr.more hm).commit C' hC hin.1 (fun o ob k ho hlv hk j=>by
          obtain ⟨k1,k2⟩:=(hr.ok o ob ho).lt hlv hk
          rw [hag k k1];exact k2 j) (fun k hk hM j=>hag k (Nat.lt_of_lt_of_le hk hr.size) j)
        exact ⟨_,σ,r',hcm.1,hcm.2,.clo _ _ hrc,rfl,rfl⟩
      ·obtain ⟨vs',hl',hrun⟩:=call_yield' (P:=P) (w:=w) hf hl ht
       rw [hrun c ty ρ fo hc hρ hv]
       by_cases hs:scal2 r'=true
       ·have hrl:=closeL1_sound (live:=true) hr hl' hcl
        obtain ⟨v,e1,e2⟩:=hX (allC w) w vs' hrl
        rw [e1]
        exact Yield.value hr (.clo _ _ (scal2_rc e2 hs)) ⟨rfl,rfl⟩
       ·have hcl':(closeL1 false σ args').isSome=true:=by simpa [hs] using hsc
        obtain ⟨a3,h3⟩:=Option.isSome_iff_exists.1 hcl'
        have:=closeL1_mono h3
        rw [hcl] at this
        cases this
        have hrl:=closeL1_sound (live:=false) hr hl' h3
        obtain ⟨v,e1,e2⟩:=hX G.C w vs' hrl
        rw [e1]
        exact Yield.value hr (.clo _ _ e2) ⟨rfl,rfl⟩
     ·cases h
    ·cases h
   ·cases h
  ·cases h
end Go.Fw

namespace Go.Fw
open Go
set_option linter.unusedSectionVars false
variable [TB]
variable {P:Program} {E:Env} {cx:Cx} {G:Gh} {σ:List AObj} {w:World}
theorem ofConst_sound (v:Value):R G (ofConst v) v:=by
  unfold ofConst
  split
  ·rename_i cs
   split
   ·rename_i h
    have e:cs=cs.toList.toArray:=by simp
    conv=>rhs;rw [e]
    refine .agg _ _ (by simp) (fun i hi=>?_) (fun i hi=>?_)
    ·have hi':i<cs.toList.length:=by simpa using hi
     rw [getD_elem _ _ hi']
     exact List.all_eq_true.1 h _ (List.getElem_mem hi')
    ·have hi':i<cs.toList.length:=by simpa using hi
     rw [getD_elem _ _ hi',getD_elem _ _ hi]
     simp only [List.getElem_map]
     exact R.lit _
   ·exact R.lit _
  ·exact R.lit _
theorem aev_sound {f:Nat→AV} {a:Act} (h:∀ i,R G (f i) (a.tmps.getD i undef)) (x:Operand):R G (aev f x) (a.eval x):=by
  cases x with
  |tmp t=>exact h t
  |const v=>exact ofConst_sound v
  |global g=>exact R.lit _
  |func g=>exact .clo _ _ (.fn _ [] [] [] [] rfl (by simp) rfl (by simp))
theorem rlg_map {ev:Operand→AV} {ρ:Operand→Value} (h:∀ x,R G (ev x) (ρ x)) (l:List Operand):RLG G (l.map ev) (l.map ρ):=by
  refine ⟨by simp,fun i hi=>?_⟩
  have hi':i<l.length:=by simpa using hi
  rw [getD_elem _ _ (by simpa using hi'),getD_elem _ _ (by simpa using hi')]
  simp only [List.getElem_map]
  exact h _
theorem optR_map {ev:Operand→AV} {ρ:Operand→Value} (h:∀ x,R G (ev x) (ρ x)) (o:Option Operand):OptR G (o.map ev) (o.map ρ):=by
  cases o with
  |none=>exact ⟨by simp,fun _=>rfl⟩
  |some x=>exact ⟨fun y hy=>by cases hy;exact ⟨_,rfl,h x⟩,by simp⟩
theorem Yield.of_sem (hr:Rel cx G σ w) {s:Sem Value} {x:AV} (h:∃ v,s.run P w= .ok v w∧R G x v):
    Yield P cx G (fun y σ'=>y=x∧σ'=σ) ((do pure (.value (←s)):Sem Next).run P w):=by
  obtain ⟨v,h1,h2⟩:=h
  simp only [Sem.run_bind,h1,Result.andThen_ok,Sem.run_pure]
  exact Yield.value hr h2 ⟨rfl,rfl⟩
theorem Yield.of_sem' {s:Sem Value} {x:AV} (h:∃ v w' G',s.run P w= .ok v w'∧G.le G'∧Rel cx G' σ w'∧R G' x v):
    Yield P cx G (fun y σ'=>y=x∧σ'=σ) ((do pure (.value (←s)):Sem Next).run P w):=by
  obtain ⟨v,w',G',h1,h2,h3,h4⟩:=h
  simp only [Sem.run_bind,h1,Result.andThen_ok,Sem.run_pure]
  exact ⟨G',σ,x,h2,h3,h4,rfl,rfl⟩
theorem Yield.of_next (hr:Rel cx G σ w) {s:Sem Next} {x:AV} (h:∃ v,s.run P w= .ok (.value v) w∧R G x v):Yield P cx G (fun y σ'=>y=x∧σ'=σ) (s.run P w):=by
  obtain ⟨v,h1,h2⟩:=h
  rw [h1]
  exact Yield.value hr h2 ⟨rfl,rfl⟩
theorem sameA_sound {d:TypeDesc} {a b:Value} {r:Bool} (h:sameA d a b=some r):Instr.sameNow d a b=some r:=by
  unfold sameA at h
  split at h
  ·exact h
  ·rename_i x y
   simp only [Option.some.injEq] at h
   simp only [Instr.sameNow,Option.some.injEq]
   rw [←h,eqS,beq_toListBytes,toList_data,toList_data]
  ·cases h
theorem findA_sound {C:Nat→Nat→Option Value} {d:TypeDesc} {k:Value}:∀ {es:List (Value×AV)} {l:List MapEntry} {i:Nat} {r:Option AV},l.map (fun e:MapEntry=>e.key)=es.map (fun x=>x.1)→
    (∀ i,i<es.length→RC C ((es.map (fun x=>x.2)).getD i .top) ((l.map (fun e:MapEntry=>e.val)).getD i undef))→findA d k es=some r→
    (r=none∧Instr.findNow d k l i=some none)∨∃ x j v,r=some x∧Instr.findNow d k l i=some (some (i+j,v))∧RC C x v
  |[],l,i,r,hk,hv,h=>by
   cases h
   have:l=[]:=by simpa using hk
   subst this
   exact .inl ⟨rfl,rfl⟩
  |e::es,l,i,r,hk,hv,h=>by
   cases l with
   |nil=>simp at hk
   |cons m l=>
    simp only [List.map_cons,List.cons.injEq] at hk
    simp only [findA] at h
    simp only [Instr.findNow,hk.1]
    split at h
    ·rename_i hs
     rw [sameA_sound hs]
     cases h
     exact .inr ⟨_,0,m.val,rfl,rfl,by simpa using hv 0 (by simp)⟩
    ·rename_i hs
     rw [sameA_sound hs]
     rcases findA_sound (i:=i+1) hk.2 (fun i hi=>by simpa using hv (i+1) (by simpa using hi)) h with h1|⟨x,j,v,h1,h2,h3⟩
     ·exact .inl h1
     ·exact .inr ⟨x,j+1,v,h1,by simp only;rw [h2];congr 3;omega,h3⟩
    ·cases h
theorem key_ok {b:Bool} {n:Nat} {t:TypeId} {v:Value} {d:TypeDesc} (ht:P.underlying t=some d) (hd:keyT d=true):(Instr.checkKey b (n+1) t v).run P w= .ok () w:=by
  cases d<;>first|(cases hd;done)|(cases v<;>simp [Instr.checkKey,run_und ht])
theorem map_of {o:Nat} {v:Value} {es:List (Value×AV)} (hr:Rel cx G σ w) (hx:R G (.mp o) v) (ho:σ[o]? =some (.map es)):∃ g ents clock,G.b o= .map (some g)∧v= .map (some g)∧MapOk G w es g ents clock:=by
  obtain ⟨_,g,hg,rfl⟩:=hx.mp_inv
  obtain ⟨g',ents,clock,h1,h2⟩:=hr.ok o _ ho
  rw [hg] at h1
  simp at h1
  subst h1
  exact ⟨g,ents,clock,hg,rfl,h2⟩
theorem lookV_sound (hE:EnvOk P E) {t:TypeId} {x key y:AV} {v vk:Value} {b:Bool} {p:Prop} (hr:Rel cx G σ w) (hx:R G x v) (hkv:R G key vk) (h:lookV P E σ t x key b=some (p,y)):
    ∃ u,(Instr.lookup t v vk b).run P w= .ok u w∧R G y u:=by
  unfold lookV at h
  split at h
  ·rename_i kt et o k ht
   have hk:=hkv.lit_inv
   subst hk
   split at h
   ·rename_i es d ho hd
    obtain ⟨g,ents,clock,hg,rfl,hm⟩:=map_of hr hx ho
    split at h
    ·rename_i hc
     have hget:(getObj g).run P w= .ok (.map ents clock) w:=by simp [getObj,Sem.run,hm.heap]
     have hck:∀ b,(Instr.checkKey b 10000 kt vk).run P w= .ok () w:=fun b=>key_ok hd hc.1
     obtain ⟨z,hz⟩:=Option.isSome_iff_exists.1 hc.2
     have hzv:(zeroValue et).run P w= .ok z w:=by
       unfold zeroT at hz
       cases hi:P.info? et with
       |none=>rw [hi] at hz;cases hz
       |some i=>rw [hi] at hz;simp [zeroValue,typeInfo,hi] at hz ⊢;rw [hz];rfl
     have hzr:R G (E.zero et) z:= .clo _ _ ((hE.zero et z hz).mono (fun _ _ _ h=>by cases h))
     have tup:∀ {x:AV} {v:Value} (c:Bool),R G x v→R G (.tup [x,.lit (.bool c)]) (.tuple #[v,.bool c]):=fun {x v} c hxv=> .tup _ [v,.bool c] rfl (fun i hi=>by
       match i,hi with
       |0,_=>simpa using hxv
       |1,_=>exact R.lit _)
     split at h
     ·rename_i y' hf
      cases h
      rcases findA_sound (i:=0) hm.key hm.val hf with ⟨h1,_⟩|⟨x',j,v',h1,h2,h3⟩
      ·cases h1
      ·cases h1
       refine ⟨if b=true then .tuple #[v',.bool true] else v',?_,?_⟩
       ·simp [Instr.lookup,run_und ht,hget,hck,Instr.findKey,run_und hd,h2]
       ·cases b
        ·exact .clo _ _ h3
        ·exact tup _ (.clo _ _ h3)
     ·rename_i hf
      cases h
      rcases findA_sound (i:=0) hm.key hm.val hf with ⟨_,h2⟩|⟨x',j,v',h1,_⟩
      ·refine ⟨if b=true then .tuple #[z,.bool false] else z,?_,?_⟩
       ·simp [Instr.lookup,run_und ht,hget,hck,Instr.findKey,run_und hd,h2,hzv]
       ·cases b
        ·exact hzr
        ·exact tup _ hzr
      ·cases h1
     ·cases h
    ·cases h
   ·cases h
  ·cases h
theorem ifcV_sound {t:TypeId} {x y:AV} {v:Value} {p:Prop} (hx:R G x v) (h:ifcV P t x=some (p,y)):∃ u,(Instr.makeInterface t v).run P w= .ok u w∧R G y u:=by
  unfold ifcV at h
  split at h
  ·rename_i hn
   have key:∀ u,(Instr.makeInterface t u).run P w= .ok (.iface t u) w:=by
     intro u
     cases hd:P.underlying t with
     |none=>rw [hd] at hn;cases hn
     |some d=>rw [hd] at hn;cases d<;>first|(cases hn;done)|simp [Instr.makeInterface,run_und hd]
   split at h
   ·cases h
    rw [hx.lit_inv]
    exact ⟨_,key _,R.lit _⟩
   ·cases h
    obtain ⟨vs,rfl,hl,_⟩:=hx.agg_inv
    have:vs=[]:=List.eq_nil_of_length_eq_zero hl
    subst this
    exact ⟨_,key _,R.lit _⟩
   ·cases h
  ·cases h
theorem map_arr {α β:Type} (a:Array α) (f:α→β):a.map f=(a.toList.map f).toArray:=by
  cases a;simp
theorem pval_sound (hE:EnvOk P E) (hr:Rel cx G σ w) {ev:Operand→AV} {ρ:Operand→Value} (he:∀ x,R G (ev x) (ρ x)) {o:Oper} {p:Prop} {x:AV}
    (h:pval P E ev σ o=some (p,x)) (hp:p):Yield P cx G (fun y σ'=>y=x∧σ'=σ) ((execOp ρ o).run P w):=by
  unfold pval at h
  unfold execOp
  cases ho:o.op with
  |move y=>rw [ho] at h;cases h;exact Yield.value hr (he y) ⟨rfl,rfl⟩
  |assign y=>rw [ho] at h;cases h;exact Yield.value hr (he y) ⟨rfl,rfl⟩
  |pick c a b=>
   rw [ho] at h
   simp only at h ⊢
   split at h
   ·rename_i t ht
    have hc:ρ c= .bool t:=by have:=he c;rw [ht] at this;exact this.lit_inv
    have hz:=pickV_sound (he a) (he b) h hp
    simp only [hc,asBool,Sem.run_bind,Sem.run_pure,Result.andThen_ok]
    exact Yield.value hr hz ⟨rfl,rfl⟩
   ·cases h
  |build t parts=>
   rw [ho] at h
   simp only at h ⊢
   have:=buildV_sound (P:=P) (w:=w) (G:=G) hE (vs:=parts.toList.map fun p=>(p.1,ρ p.2)) (by simp [Function.comp_def]) (fun i hi=>?_) h
   ·rw [map_arr parts fun x=>(x.1,ρ x.2)]
    exact Yield.of_sem hr this
   ·have h2:=rlg_map he (parts.toList.map (·.2))
    simp only [List.map_map,Function.comp_def] at h2 ⊢
    exact h2.2 i (by simpa using hi)
  |buildSlice t len parts=>
   rw [ho] at h
   simp only at h ⊢
   have:=buildSliceV_sound (P:=P) (w:=w) (G:=G) hE hr (vs:=parts.toList.map fun p=>(p.1,ρ p.2)) (by simp [Function.comp_def]) (fun i hi=>?_) h
   ·rw [map_arr parts fun x=>(x.1,ρ x.2)]
    exact Yield.of_sem' this
   ·have h2:=rlg_map he (parts.toList.map (·.2))
    simp only [List.map_map,Function.comp_def] at h2 ⊢
    exact h2.2 i (by simpa using hi)
  |load t a=>rw [ho] at h;exact Yield.of_sem hr (loadV_sound hr (he a) h hp)
  |nilCheck y=>
   rw [ho] at h
   simp only at h ⊢
   rcases nilChk_sound hr (he y) h with ⟨⟨a,ha⟩,hy⟩|⟨⟨g,a,b,ha⟩,hy⟩
   ·rw [ha] at hy ⊢;exact Yield.value hr hy ⟨rfl,rfl⟩
   ·rw [ha] at hy ⊢;exact Yield.value hr hy ⟨rfl,rfl⟩
  |binOp op t y z ty=>
   rw [ho] at h
   simp only at h
   split at h
   ·rename_i b hb
    cases h
    exact Yield.of_sem hr ⟨_,ifaceV_sound (oy:=z) (he y) (he z) hb,R.lit _⟩
   ·exact Yield.of_sem hr (binV_sound (he y) (he z) h hp y z)
  |unOp op t y=>rw [ho] at h;exact Yield.of_sem hr (unV_sound (he y) h hp)
  |convert s d y=>rw [ho] at h;exact Yield.of_sem hr (convV_sound hr (he y) h)
  |makeFunc fn first captured=>
   rw [ho] at h
   cases h
   simp only [Instr.makeFunc,Sem.run_bind,Sem.run_pure,Result.andThen_ok]
   have h1:=rlg_map he first.toList
   have h2:=rlg_map he captured.toList
   have e1:first.map ρ=(first.toList.map ρ).toArray:=map_arr _ _
   have e2:captured.map ρ=(captured.toList.map ρ).toArray:=map_arr _ _
   rw [e1,e2]
   exact Yield.value hr (.fn fn _ _ _ _ h1.1 h1.2 h2.1 h2.2) ⟨rfl,rfl⟩
  |slice t y lo hi mx=>rw [ho] at h;exact Yield.of_sem hr (sliceV_sound hr (he y) (optR_map he lo) (optR_map he hi) (optR_map he mx) h hp)
  |fieldAddr s y f=>rw [ho] at h;exact Yield.of_sem hr (fieldAddrV_sound hr (he y) h)
  |field s y f=>rw [ho] at h;exact Yield.of_sem hr (fieldV_sound (he y) h)
  |indexAddr t y i=>rw [ho] at h;exact Yield.of_sem hr (indexAddrV_sound hr (he y) (he i) h hp)
  |index t y i=>rw [ho] at h;exact Yield.of_sem hr (indexV_sound (he y) (he i) h hp)
  |extract t i=>rw [ho] at h;exact Yield.of_sem hr (extractV_sound (he t) h)
  |lookup t y i b=>rw [ho] at h;exact Yield.of_sem hr (lookV_sound hE hr (he y) (he i) h)
  |makeInterface t y=>rw [ho] at h;exact Yield.of_sem hr (ifcV_sound (he y) h)
  |call c=>
   rw [ho] at h
   simp only at h ⊢
   split at h
   ·rename_i b hc
    have hrl:=rlg_map he c.args.toList
    have eargs:c.args.map ρ=(c.args.toList.map ρ).toArray:=map_arr _ _
    split at h
    ·rename_i hb
     have hb':b= .append:=by cases b<;>first|rfl|cases hb
     subst hb'
     split at h
     ·rename_i s y hargs
      have:=pappV_sound (P:=P) (ty:=o.type) hr (he s) (he y) h hp
      have e2:c.args.map ρ= #[ρ s,ρ y]:=by rw [eargs,hargs];rfl
      simp only [resolve,hc,invoke,builtin,Sem.run_bind,Sem.run_pure,Result.andThen_ok,e2]
      obtain ⟨v,w',G',h1,h2,h3,h4⟩:=this
      rw [h1]
      exact ⟨G',σ,x,h2,h3,h4,rfl,rfl⟩
     ·cases h
    ·simp only [resolve,hc,invoke,Sem.run_bind,Sem.run_pure,Result.andThen_ok,eargs]
     exact Yield.of_next hr (builtinV_sound hr hrl h)
   ·rename_i f hc
    exact callV_sound hE hr (he f) (rlg_map he c.args.toList) h hp c o.type ρ f hc rfl (by simp)
   ·cases h
  |_=>rw [ho] at h;cases h
end Go.Fw

namespace Go.Fw
open Go
set_option linter.unusedSectionVars false
variable [TB]
variable {P:Program} {E:Env} {cx:Cx} {G:Gh} {σ:List AObj} {w:World}
structure Touch (w w':World) (g:Nat):Prop where
  os:w'.os=w.os
  tape:w'.tape=w.tape
  output:w'.output=w.output
  size:w'.heap.size=w.heap.size
  block:∀ k,k≠g→w'.heap[k]? =w.heap[k]?
theorem Touch.refl (w:World) (g:Nat):Touch w w g:=⟨rfl,rfl,rfl,rfl,fun _ _=>rfl⟩
theorem Touch.trans {a b c:World} {g:Nat} (h:Touch a b g) (k:Touch b c g):Touch a c g:=
  ⟨k.os.trans h.os,k.tape.trans h.tape,k.output.trans h.output,k.size.trans h.size,fun i hi=>(k.block i hi).trans (h.block i hi)⟩
theorem setCell_touch (w:World) (a:Addr) (v:Value):Touch w (w.setCell a v) a.block:=
  ⟨rfl,rfl,rfl,by simp [World.setCell],fun k hk=>by simp only [World.setCell,Array.getElem?_modify];rw [if_neg (Ne.symm hk)]⟩
theorem setCell_blk {g off:Nat} {cur:Array Value} {e:TypeId} (h:Blk w g cur e) (v:Value):Blk (w.setCell ⟨g,off,none⟩ v) g (cur.setIfInBounds off v) e:=by
  obtain ⟨fz,h1,h2⟩:=h
  refine ⟨fz,?_,by simpa using h2⟩
  simp only [World.setCell,Array.getElem?_modify,if_pos,h1]
  simp
theorem storeCells_run (g off:Nat) (e:TypeId):∀ (vs:List Value) (i:Nat) (cur:Array Value) (w:World),Blk w g cur e→off+i+vs.length≤cur.size→(∀ v∈vs,v.oneCell'=true)→
    ∃ w',(storeCells ⟨g,off,none⟩ vs i).run P w= .ok () w'∧Blk w' g (setRangeA cur (off+i) vs) e∧Touch w w' g
  |[],i,cur,w,h,_,_=>⟨w,by simp [storeCells],h,Touch.refl w g⟩
  |v::vs,i,cur,w,h,hl,hv=>by
   simp only [List.length_cons] at hl
   have hin:off+i<cur.size:=by omega
   have hb:=setCell_blk (off:=off+i) h v
   obtain ⟨w',h1,h2,h3⟩:=storeCells_run g off e vs (i+1) _ _ hb (by simp;omega) (fun u hu=>hv u (by simp [hu]))
   refine ⟨w',?_,by simpa [setRangeA,Nat.add_assoc] using h2,(setCell_touch w ⟨g,off+i,none⟩ v).trans h3⟩
   simp only [storeCells,Sem.run_bind,Addr.add_plain]
   rw [run_store P w _ v .plain (hv v (by simp))]
   rw [h.cellD hin,h.frozen _ hin]
   simp only [Bool.false_eq_true,if_false,Result.andThen_ok]
   exact h1
theorem storeAt_run {t:TypeId} {g off:Nat} {cur:Array Value} {e:TypeId} {v:Value} (h:Blk w g cur e) (hsz:0<szT P t) (hv:v.cells.size=szT P t) (hl:off+szT P t≤cur.size)
    (h1:∀ u∈v.cells.toList,u.oneCell'=true):
    ∃ w',(Instr.storeAt t (.pointer (some ⟨g,off,none⟩)) v).run P w= .ok () w'∧Blk w' g (setRangeA cur off v.cells.toList) e∧Touch w w' g:=by
  obtain ⟨w',k1,k2,k3⟩:=storeCells_run (P:=P) g off e v.cells.toList 0 cur w h (by simp [hv];omega) h1
  refine ⟨w',?_,by simpa using k2,k3⟩
  simp only [Instr.storeAt,Instr.sureAddr,storeVar,Sem.run_bind,Sem.run_pure,Result.andThen_ok,szT_info (Nat.ne_of_gt hsz)]
  rw [if_neg (by simp [hv])]
  exact k1
def freezeO (σ:List AObj) (o:Nat):List AObj:=
  match σ[o]? with
  |some (.arr e sz xs ver false)=>σ.set o (.arr e sz xs ver true)
  |_=>σ
def ids0:AV→List Nat
  |.arr o _=>[o]
  |.sub o _ _ _ _=>[o]
  |_=>[]
def ids1:AV→List Nat
  |.agg xs=>xs.flatMap ids0
  |x=>ids0 x
def freezeL (σ:List AObj) (os:List Nat):List AObj:=os.foldl freezeO σ
theorem Rel.freezeO (hr:Rel cx G σ w) (o:Nat):∃ G',G.le G'∧Rel cx G' (freezeO σ o) w:=by
  unfold Fw.freezeO
  split
  ·rename_i e sz xs ver ho
   have hlt:o<σ.length:=(List.getElem?_eq_some_iff.1 ho).1
   have hok:=hr.ok o _ ho
   have split':∀ (ob':AObj) i x,(σ.set o ob')[i]? =some x→(i≠o∧σ[i]? =some x)∨(i=o∧x=ob'):=by
     intro ob' i x hi
     by_cases e:i=o
     ·subst e;rw [List.getElem?_set_self hlt] at hi;exact .inr ⟨rfl,by simpa using hi.symm⟩
     ·rw [List.getElem?_set_ne (by omega)] at hi;exact .inl ⟨e,hi⟩
   have other:∀ i x g,i≠o→σ[i]? =some x→x.live=true→ownB (G.b i)=some g→ownB (G.b o)≠some g:=
     fun i x g hi hx hxl hg hg'=>hi (hr.inj i o x _ g hx hxl ho rfl hg hg')
   have key:∃ C',CLe G.C C'∧(∀ k j u,C' k j=some u→w.cell? ⟨k,j,none⟩=some u)∧(∀ k,ownB (G.b o)≠some k→C' k=G.C k)∧RC C' (.sl false sz xs) (G.b o):=by
     have h3:=hok.2.2
     simp only [Bool.false_eq_true,if_false] at h3
     rcases h3 with ⟨rfl,a,ha⟩|⟨g,cap,cur,ha⟩
     ·exact ⟨G.C,CLe.refl _,hr.cell,fun _ _=>rfl,by rw [ha];exact empty_sl⟩
     ·have hC:CLe G.C (addC G.C g cur):=fun k j u hu=>by
        unfold addC
        split
        ·rename_i hk;subst hk;rw [ha.unc] at hu;cases hu
        ·exact hu
      refine ⟨addC G.C g cur,hC,fun k j u hu=>?_,fun k hk=>?_,?_⟩
      ·unfold addC at hu
       split at hu
       ·rename_i hk;subst hk;rw [ha.blk.cell];exact hu
       ·exact hr.cell k j u hu
      ·funext j
       unfold addC
       rw [if_neg]
       intro e1
       subst e1
       apply hk
       have hp:=ha.pos
       rw [ha.v];simp [ownB];omega
      ·rw [ha.v]
       have hrow:RowOk G.C sz xs cur:=RowOk.of_flat ha.wid (by rw [ha.size];exact Nat.mul_le_mul_right _ ha.le) (fun j hj=>⟨ha.rel j hj,ha.one j hj⟩)
       exact (hrow.mono hC).sl false g cap ha.le ha.max (by simp) (fun j=>by simp [addC])
   obtain ⟨C',hC,hcell,hag,hrc⟩:=key
   have hle:G.le {G with C:=C'}:=⟨hC,Nat.le_refl _,fun _ _=>Nat.le_refl _,fun _ _ _=>rfl,fun _ _ _=>rfl⟩
   refine ⟨{G with C:=C'},hle,?_⟩
   refine ⟨by simp [hr.n],?_,?_,?_,hcell,hr.os,hr.tape,hr.output,hr.size,hr.block,?_,hr.le0.trans hle⟩
   ·intro i x hi
    rcases split' _ i x hi with ⟨hne,hi⟩|⟨rfl,rfl⟩
    ·refine (hr.ok i x hi).keep hle rfl rfl (fun hxl g hg=>⟨rfl,fun j=>?_⟩)
     show C' g j=none
     rw [hag g (other i x g hne hi hxl hg)]
     exact ((hr.ok i x hi).lt hxl hg).2 j
    ·exact ⟨hok.1,hok.2.1,by simpa using hrc⟩
   ·intro o1 o2 ob1 ob2 g ho1 hl1 ho2 hl2 hg1 hg2
    rcases split' _ o1 ob1 ho1 with ⟨hn1,p1⟩|⟨e1,e1'⟩
    ·rcases split' _ o2 ob2 ho2 with ⟨hn2,p2⟩|⟨e2,e2'⟩
     ·exact hr.inj o1 o2 ob1 ob2 g p1 hl1 p2 hl2 hg1 hg2
     ·rw [e2'] at hl2;cases hl2
    ·rw [e1'] at hl1;cases hl1
   ·intro i x g hi hxl hg
    rcases split' _ i x hi with ⟨hne,hi⟩|⟨e1,e1'⟩
    ·exact hr.own i x g hi hxl hg
    ·rw [e1'] at hxl;cases hxl
   ·intro k hk hM j
    have hne:ownB (G.b o)≠some k:=by
      intro hg
      rcases hr.own o _ k ho rfl hg with h1|h1
      ·omega
      ·exact hM h1
    show C' k j=_
    rw [hag k hne]
    exact hr.old k hk hM j
  ·exact ⟨G,Gh.le.refl G,hr⟩
theorem Rel.freezeL (os:List Nat):∀ {G:Gh} {σ:List AObj},Rel cx G σ w→∃ G',G.le G'∧Rel cx G' (freezeL σ os) w:=by
  induction os with
  |nil=>intro G σ hr;exact ⟨G,Gh.le.refl G,hr⟩
  |cons o os ih=>
   intro G σ hr
   obtain ⟨G1,h1,h2⟩:=hr.freezeO o
   obtain ⟨G2,h3,h4⟩:=ih h2
   exact ⟨G2,h1.trans h3,h4⟩
theorem Rel.newBox (hr:Rel cx G σ w) (t:TypeId) {cs:List AV} {cur:Array Value} (h:RCells G cs cur):
    ∃ G',G.le G'∧Rel cx G' (σ++[.box t cs]) {w with heap:=w.heap.push (.cells cur t (0,0))}∧R G' (.ref σ.length 0) (.pointer (some ⟨w.heap.size,0,none⟩)):=by
  have hm:=hr.more (More.push w (.cells cur t (0,0)))
  refine ⟨G.push (.pointer (some ⟨w.heap.size,0,none⟩)) 0,G.le_push _ _,hm.pushObj _ _ _ ?_ ?_,?_⟩
  ·refine ⟨w.heap.size,cur,by simp only [Gh.push];rw [hr.n,updN_same],⟨(0,0),by simp,by simp⟩,Nat.le_of_eq h.1.symm,fun i hi=>⟨(h.2 i hi).1.mono (G.le_push _ _),(h.2 i hi).2⟩,fun j=>hr.no_commit (Nat.le_refl _) j⟩
  ·intro _ g hg
   simp [ownB] at hg
   subst hg
   refine ⟨.inl hr.size,fun o ob' ho hl hg=>?_⟩
   have:=((hr.ok o ob' ho).lt hl hg).1
   omega
  ·rw [←hr.n]
   exact .ref _ _ _ (by simp [Gh.push]) (by simp only [Gh.push];rw [updN_same])
theorem Rel.newArr (hr:Rel cx G σ w) (e sz:Nat) {xs:List AV} {cur:Array Value} {cap:Nat} {fz:Nat×Nat} (h:RowOk G.C sz xs cur) (hp:0<cap) (hl:xs.length≤cap) (hm:cap≤maxLen)
    (hs:cur.size=cap*sz) (hfz:fz.1≤fz.2∧∀ off,off<cur.size→ ¬ (fz.1≤off∧off<fz.2)):
    ∃ G',G.le G'∧Rel cx G' (σ++[.arr e sz xs 0 false]) {w with heap:=w.heap.push (.cells cur e fz)}∧R G' (.arr σ.length 0) (.slice (some ⟨w.heap.size,0,none⟩) xs.length cap):=by
  have hmo:=hr.more (More.push w (.cells cur e fz))
  have hb:(G.push (.slice (some ⟨w.heap.size,0,none⟩) xs.length cap) 0).b σ.length= .slice (some ⟨w.heap.size,0,none⟩) xs.length cap:=by simp only [Gh.push];rw [hr.n,updN_same]
  have hv:(G.push (.slice (some ⟨w.heap.size,0,none⟩) xs.length cap) 0).ver σ.length=0:=by simp only [Gh.push];rw [hr.n,updN_same]
  refine ⟨G.push (.slice (some ⟨w.heap.size,0,none⟩) xs.length cap) 0,G.le_push _ _,hmo.pushObj _ _ _ ?_ ?_,?_⟩
  ·refine ⟨hv,⟨_,_,hb,fun _=>⟨_,rfl⟩⟩,?_⟩
   simp only [Bool.false_eq_true,if_false]
   rw [hb]
   exact .inr ⟨w.heap.size,cap,cur,rfl,hp,⟨fz,by simp,hfz⟩,hl,hm,hs,h.wid,fun i hi=>(h.flat i hi).2,fun i hi=>(h.flat i hi).1,fun j=>hr.no_commit (Nat.le_refl _) j⟩
  ·intro _ g hg
   simp [ownB] at hg
   obtain ⟨_,rfl⟩:=hg
   refine ⟨.inl hr.size,fun o ob' ho hl' hg=>?_⟩
   have:=((hr.ok o ob' ho).lt hl' hg).1
   omega
  ·refine .arr _ _ _ (by simp [Gh.push,hr.n]) (Nat.zero_le _) (fun _=>hb.symm) ⟨_,_,_,rfl⟩
theorem Rel.newEmpty (hr:Rel cx G σ w) (e sz:Nat) (a:Option Addr):
    ∃ G',G.le G'∧Rel cx G' (σ++[.arr e sz [] 0 false]) w∧R G' (.arr σ.length 0) (.slice a 0 0):=by
  have hb:(G.push (.slice a 0 0) 0).b σ.length= .slice a 0 0:=by simp only [Gh.push];rw [hr.n,updN_same]
  have hv:(G.push (.slice a 0 0) 0).ver σ.length=0:=by simp only [Gh.push];rw [hr.n,updN_same]
  refine ⟨G.push (.slice a 0 0) 0,G.le_push _ _,hr.pushObj _ _ _ ?_ ?_,?_⟩
  ·refine ⟨hv,⟨_,_,hb,fun h=>absurd rfl h⟩,?_⟩
   simp only [Bool.false_eq_true,if_false]
   rw [hb]
   exact .inl ⟨trivial,a,rfl⟩
  ·intro _ g hg
   cases a<;>simp [ownB] at hg
  ·exact .arr _ _ _ (by simp [Gh.push,hr.n]) (Nat.zero_le _) (fun _=>hb.symm) ⟨_,_,_,rfl⟩
theorem Rel.touch (hr:Rel cx G σ w) {w':World} {o g:Nat} {ob ob':AObj} (ho:σ[o]? =some ob) (hl:ob.live=true) (hg:ownB (G.b o)=some g) (ht:Touch w w' g) (hob:ObjOk G w' o ob'):
    Rel cx G (σ.set o ob') w':=
  hr.turn o ob ob' ho hl (Gh.le.refl G) rfl rfl (fun _ _=>⟨rfl,rfl⟩) hob (fun _ h=> .inl h) ht.os ht.tape ht.output (by rw [ht.size];exact Nat.le_refl _)
    (fun k _ hk=>ht.block k (fun e=>by subst e;exact hk hg))
theorem Rel.storeBox (hr:Rel cx G σ w) {o off:Nat} {t t':TypeId} {cs:List AV} {x:AV} {v va:Value} (ho:σ[o]? =some (.box t' cs)) (ha:R G (.ref o off) va) (hx:R G x v) (hs:x.solid=true)
    (hw:x.cells.length=szT P t) (hpos:0<szT P t) (hl:off+szT P t≤cs.length):
    ∃ w',(Instr.storeAt t va v).run P w= .ok () w'∧Rel cx G (σ.set o (.box t' (setRange cs off x.cells))) w':=by
  obtain ⟨g,cur,hb,rfl,hblk,hsz,hc⟩:=box_of hr ho ha
  obtain ⟨k1,k2⟩:=cellsL hx hs
  have hvs:v.cells.size=szT P t:=by rw [←hw,←k1];simp
  obtain ⟨w',h1,h2,h3⟩:=storeAt_run (P:=P) (t:=t) (v:=v) (off:=off) hblk hpos hvs (by omega) (fun u hu=>by
    obtain ⟨i,hi,rfl⟩:=List.getElem_of_mem hu
    have:=(k2 i (by rw [←k1];exact hi)).2
    rwa [getD_elem _ _ hi] at this)
  refine ⟨w',h1,hr.touch (g:=g) ho rfl (by rw [hb];rfl) h3 ?_⟩
  have hset:RCellsW G (setRange cs off x.cells) (setRangeA cur off v.cells.toList):=RCellsW.set ⟨hsz,hc⟩ k1 (by omega) k2
  have hok:=hr.ok o _ ho
  obtain ⟨g',cur',e1,_,_,_,e5⟩:=hok
  rw [hb] at e1
  simp at e1
  subst e1
  exact ⟨g,_,hb,h2,hset.1,hset.2,e5⟩
theorem Rel.storeElem (hr:Rel cx G σ w) {o ver sz i:Nat} {e t:TypeId} {xs:List AV} {y:AV} {v va:Value} (ho:σ[o]? =some (.arr e sz xs ver false)) (ha:R G (.eref o ver sz i 0) va)
    (hy:RC G.C y v) (hs:y.solid=true) (hw:y.cells.length=sz) (hsz:szT P t=sz) (hpos:0<sz) (hi:i<xs.length):
    ∃ w',(Instr.storeAt t va v).run P w= .ok () w'∧Rel cx G (σ.set o (.arr e sz (xs.set i y) ver false)) w':=by
  have hok:=hr.ok o _ ho
  obtain ⟨g,n,cap',hb,rfl⟩:=ha.eref_inv.2.2 hok.1.symm
  have h3:=hok.2.2
  simp only [Bool.false_eq_true,if_false] at h3
  rcases h3 with ⟨rfl,_⟩|⟨g',cap,cur,hk⟩
  ·simp at hi
  ·have hv:=hk.v
   rw [hb] at hv
   simp at hv
   obtain ⟨rfl,rfl,rfl⟩:=hv
   obtain ⟨k1,k2⟩:=hy.cellsL hs
   have hvs:v.cells.size=szT P t:=by rw [hsz,←hw,←k1];simp
   have hbig:i*sz+sz≤cur.size:=by
     rw [hk.size]
     have:(i+1)*sz≤cap'*sz:=Nat.mul_le_mul_right _ (by have:=hk.le;omega)
     rw [Nat.add_mul] at this;omega
   obtain ⟨w',h1,h2,h4⟩:=storeAt_run (P:=P) (t:=t) (v:=v) (off:=i*sz+0) hk.blk (by omega) hvs (by omega) (fun u hu=>by
     obtain ⟨i,hi,rfl⟩:=List.getElem_of_mem hu
     have:=(k2 i (by rw [←k1];exact hi)).2
     rwa [getD_elem _ _ hi] at this)
   have hcap:=hk.pos
   refine ⟨w',h1,hr.touch (g:=g) ho rfl (by rw [hb];simp [ownB];omega) h4 ?_⟩
   have hrow:RowOk G.C sz xs cur:=RowOk.of_flat hk.wid (by rw [hk.size];exact Nat.mul_le_mul_right _ hk.le) (fun j hj=>⟨hk.rel j hj,hk.one j hj⟩)
   have hrow':=hrow.set hi hy hs hw
   refine ⟨hok.1,by rw [List.length_set];exact ⟨_,_,hb,fun _=>⟨g,rfl⟩⟩,?_⟩
   simp only [Bool.false_eq_true,if_false]
   refine .inr ⟨g,cap',setRangeA cur (i*sz) v.cells.toList,by simpa using hb,hk.pos,by simpa using h2,by simpa using hk.le,hk.max,by rw [setRangeA_size];exact hk.size,hrow'.wid,
     fun j hj=>(hrow'.flat j hj).2,fun j hj=>(hrow'.flat j hj).1,hk.unc⟩
theorem RowOk.setPart {C:Nat→Nat→Option Value} {sz:Nat} {xs:List AV} {cur:Array Value} (h:RowOk C sz xs cur) {i j:Nat} {cs:List AV} {y:AV} {v:Value} (hi:i<xs.length) (hx:xs.getD i .top= .agg cs) (hy:RC C y v)
    (hs:y.solid=true) (hw:j+y.cells.length≤sz):RowOk C sz (xs.set i (.agg (setRange cs j y.cells))) (setRangeA cur (i*sz+j) v.cells.toList):=by
  have hcl:=hy.cellsL hs
  have hcs:cs.length=sz:=by
    have:=h.wid _ (getD_mem' hi)
    rw [hx] at this;exact this
  have hbig:i*sz+sz≤cur.size:=by
    have:(i+1)*sz≤xs.length*sz:=Nat.mul_le_mul_right _ (by omega)
    rw [Nat.add_mul] at this
    have:=h.le
    omega
  refine ⟨fun x hx=>?_,by rw [setRangeA_size];simpa using h.le,fun k m hk hm=>?_⟩
  ·rcases List.mem_or_eq_of_mem_set hx with hx|rfl
   ·exact h.wid x hx
   ·show (setRange cs j y.cells).length=sz
    rw [setRange_length,hcs]
  ·rw [setRangeA_getD _ _ _ _ (by rw [hcl.1];omega),hcl.1]
   simp only [List.length_set] at hk
   by_cases e:k=i
   ·subst e
    have hg:(xs.set k (.agg (setRange cs j y.cells))).getD k .top= .agg (setRange cs j y.cells):=by simp [List.getD,List.getElem?_set_self hi]
    rw [hg]
    show RC C ((setRange cs j y.cells).getD m .top) _∧_
    rw [setRange_getD _ _ _ _ (by omega)]
    by_cases hr:j≤m∧m<j+y.cells.length
    ·rw [if_pos hr,if_pos (by omega),show k*sz+m - (k*sz+j)=m - j by omega]
     exact hcl.2 (m - j) (by omega)
    ·rw [if_neg hr,if_neg (by omega)]
     have:=h.rel k m hi hm
     rw [hx] at this
     exact this
   ·have hne: ¬ (i*sz+j≤k*sz+m∧k*sz+m<i*sz+j+y.cells.length):=by
      rcases Nat.lt_or_gt_of_ne e with hlt|hgt
      ·have:(k+1)*sz≤i*sz:=Nat.mul_le_mul_right _ (by omega)
       rw [Nat.add_mul] at this;omega
      ·have:(i+1)*sz≤k*sz:=Nat.mul_le_mul_right _ (by omega)
       rw [Nat.add_mul] at this;omega
    rw [if_neg hne]
    have hg:(xs.set i (.agg (setRange cs j y.cells))).getD k .top=xs.getD k .top:=by simp [List.getD,List.getElem?_set_ne (Ne.symm e)]
    rw [hg]
    exact h.rel k m hk hm
theorem Rel.storePart (hr:Rel cx G σ w) {o ver sz i j:Nat} {e t:TypeId} {xs cs:List AV} {y:AV} {v va:Value} (ho:σ[o]? =some (.arr e sz xs ver false)) (ha:R G (.eref o ver sz i j) va)
    (hy:RC G.C y v) (hs:y.solid=true) (hw:y.cells.length=szT P t) (hpos:0<szT P t) (hl:j+szT P t≤sz) (hi:i<xs.length) (hx:xs.getD i .top= .agg cs):
    ∃ w',(Instr.storeAt t va v).run P w= .ok () w'∧Rel cx G (σ.set o (.arr e sz (xs.set i (.agg (setRange cs j y.cells))) ver false)) w':=by
  have hok:=hr.ok o _ ho
  obtain ⟨g,n,cap',hb,rfl⟩:=ha.eref_inv.2.2 hok.1.symm
  have h3:=hok.2.2
  simp only [Bool.false_eq_true,if_false] at h3
  rcases h3 with ⟨rfl,_⟩|⟨g',cap,cur,hk⟩
  ·simp at hi
  ·have hv:=hk.v
   rw [hb] at hv
   simp at hv
   obtain ⟨rfl,rfl,rfl⟩:=hv
   obtain ⟨k1,k2⟩:=hy.cellsL hs
   have hvs:v.cells.size=szT P t:=by rw [←hw,←k1];simp
   have hbig:i*sz+sz≤cur.size:=by
     rw [hk.size]
     have:(i+1)*sz≤cap'*sz:=Nat.mul_le_mul_right _ (by have:=hk.le;omega)
     rw [Nat.add_mul] at this;omega
   obtain ⟨w',h1,h2,h4⟩:=storeAt_run (P:=P) (t:=t) (v:=v) (off:=i*sz+j) hk.blk hpos hvs (by omega) (fun u hu=>by
     obtain ⟨i,hi,rfl⟩:=List.getElem_of_mem hu
     have:=(k2 i (by rw [←k1];exact hi)).2
     rwa [getD_elem _ _ hi] at this)
   have hcap:=hk.pos
   refine ⟨w',h1,hr.touch (g:=g) ho rfl (by rw [hb];simp [ownB];omega) h4 ?_⟩
   have hrow:RowOk G.C sz xs cur:=RowOk.of_flat hk.wid (by rw [hk.size];exact Nat.mul_le_mul_right _ hk.le) (fun j hj=>⟨hk.rel j hj,hk.one j hj⟩)
   have hrow':=hrow.setPart (j:=j) hi hx hy hs (by omega)
   refine ⟨hok.1,by rw [List.length_set];exact ⟨_,_,hb,fun _=>⟨g,rfl⟩⟩,?_⟩
   simp only [Bool.false_eq_true,if_false]
   refine .inr ⟨g,cap',setRangeA cur (i*sz+j) v.cells.toList,by simpa using hb,hk.pos,by simpa using h2,by simpa using hk.le,hk.max,by rw [setRangeA_size];exact hk.size,hrow'.wid,
     fun j hj=>(hrow'.flat j hj).2,fun j hj=>(hrow'.flat j hj).1,hk.unc⟩
end Go.Fw

namespace Go.Fw
open Go
set_option linter.unusedSectionVars false
variable [TB]
variable {P:Program} {E:Env} {cx:Cx} {G:Gh} {σ:List AObj} {w:World}
theorem run_app_room {ats:Array TypeId} {e:TypeId} (ha:appT P ats=some e) (ty:TypeId) {g n cap m:Nat} {x:Value} {news cur:Array Value}
    (hx:Src P w (szT P e) x m news) (hb:Blk w g cur e) (hns:news.size=m*szT P e) (hone:∀ v∈news.toList,v.oneCell'=true) (hc:n+m≤cap) (hs:cur.size=cap*szT P e):
    ∃ w',(Builtin.append_ ats ty #[.slice (some ⟨g,0,none⟩) n cap,x]).run P w= .ok (.slice (some ⟨g,0,none⟩) (n+m) cap) w'∧Blk w' g (setRangeA cur (n*szT P e) news.toList) e∧Touch w w' g:=by
  obtain ⟨t,u,d,i,z,h0,h1,ht,hu,hd,hi,hi1,hi2,hi3,hz,hsz,hbp,hzs⟩:=appT_spec ha
  have hmatch:(match d with|.int k=>true|_=>false)=false:=by
    cases d with
    |int k=>exact absurd rfl (hd k)
    |_=>rfl
  have hsize:∀ w':World,(sizeOf e).run P w'= .ok (szT P e) w':=fun w'=>szT_info (Nat.ne_of_gt hsz)
  have hnew:=hx.cells w rfl
  have hfit:n*szT P e+0+news.toList.length≤cur.size:=by
    have:(n+m)*szT P e≤cap*szT P e:=Nat.mul_le_mul_right _ hc
    rw [Nat.add_mul] at this
    simp [hs,hns];omega
  obtain ⟨w',k1,k2,k3⟩:=storeCells_run (P:=P) g (n*szT P e) e news.toList 0 cur w hb hfit hone
  refine ⟨w',?_,by simpa using k2,k3⟩
  unfold Builtin.append_
  simp only [h0,h1,List.getElem?_toArray,List.getElem?_cons_zero,List.getElem?_cons_succ,Sem.run_bind,run_und ht,Result.andThen_ok]
  simp only [hsize,run_und hu,Result.andThen_ok,Sem.run_pure,hmatch,Bool.false_eq_true,if_false,Sem.run_bind,hx.len,hc,if_true,Bool.not_false,hnew,Addr.add_plain,Nat.zero_add,k1]
theorem RowOk.one {C:Nat→Nat→Option Value} {sz:Nat} {xs:List AV} {cur:Array Value} (h:RowOk C sz xs cur) (hs:cur.size=xs.length*sz):∀ v∈cur.toList,v.oneCell'=true:=by
  intro v hv
  obtain ⟨j,hj,rfl⟩:=List.getElem_of_mem hv
  have hj':j<cur.size:=by simpa using hj
  have:=(h.flat j (by rw [flat_length h.wid,←hs];exact hj')).2
  rw [arr_getD,getD_elem _ _ hj] at this
  exact this
theorem RowOk.room {C:Nat→Nat→Option Value} {sz:Nat} {xs ys:List AV} {cur news:Array Value} (h:RowOk C sz xs cur) (k:RowOk C sz ys news) (ks:news.size=ys.length*sz)
    (hl:(xs.length+ys.length)*sz≤cur.size):RowOk C sz (xs++ys) (setRangeA cur (xs.length*sz) news.toList):=by
  have hnl:news.toList.length=ys.length*sz:=by simpa using ks
  have hl':xs.length*sz+ys.length*sz≤cur.size:=by rw [←Nat.add_mul];exact hl
  refine ⟨fun x hx=>?_,by rw [setRangeA_size];simpa using hl,fun i j hi hj=>?_⟩
  ·rcases List.mem_append.1 hx with hx|hx
   ·exact h.wid x hx
   ·exact k.wid x hx
  ·rw [setRangeA_getD _ _ _ _ (by rw [hnl];exact hl'),hnl]
   by_cases e:i<xs.length
   ·have hlt:=idx_lt e hj
    rw [if_neg (by omega),getD_app_left _ _ _ e]
    exact h.rel i j e hj
   ·simp only [List.length_append] at hi
    have e3:i*sz=(i - xs.length)*sz+xs.length*sz:=by rw [←Nat.add_mul];congr 1;omega
    have hlt:(i - xs.length)*sz+j<ys.length*sz:=idx_lt (by omega) hj
    rw [if_pos (by omega),getD_app_right _ _ _ (by omega)]
    have:=k.rel (i - xs.length) j (by omega) hj
    rw [arr_getD] at this
    rwa [show i*sz+j - xs.length*sz=(i - xs.length)*sz+j by omega]
def Gh.next (G:Gh) (o:Nat) (v:Value):Gh:={G with b:=updN G.b o v,ver:=updN G.ver o (G.ver o+1)}
theorem Gh.le_next {G:Gh} {o:Nat} {v:Value} (h:∃ a n c,G.b o= .slice a n c):G.le (G.next o v):=by
  obtain ⟨a,n,c,h⟩:=h
  refine ⟨CLe.refl _,Nat.le_refl _,fun i _=>?_,fun i _ e=>?_,fun i _ e=>?_⟩
  ·simp only [Gh.next,updN];split
   ·rename_i e;rw [e];exact Nat.le_succ _
   ·exact Nat.le_refl _
  ·simp only [Gh.next,updN] at e ⊢
   by_cases e1:i=o
   ·rw [if_pos e1] at e;rw [e1] at e;omega
   ·rw [if_neg e1]
  ·simp only [Gh.next,updN]
   by_cases e1:i=o
   ·rw [e1] at e;exact absurd h (e _ _ _)
   ·rw [if_neg e1]
theorem Rel.appendArr (hr:Rel cx G σ w) {o ver sz':Nat} {e:TypeId} {xs ys:List AV} {ats:Array TypeId} {x:AV} {vs vx:Value} (ty:TypeId) (ha:appT P ats=some e)
    (ho:σ[o]? =some (.arr e (szT P e) xs ver false)) (hs:R G (.arr o ver) vs) (hx:R G x vx) (hsrc:srcOf σ x=some (sz',ys)) (hsz:sz'=szT P e∨ys=[])
    (hby:(xs.length+ys.length)*byT P e≤140737488355328):
    ∃ r w' G',(Builtin.append_ ats ty #[vs,vx]).run P w= .ok r w'∧G.le G'∧Rel cx G' (σ.set o (.arr e (szT P e) (xs++ys) (ver+1) false)) w'∧R G' (.arr o (ver+1)) r:=by
  obtain ⟨news,k1,k2,k3⟩:=srcOf_sound (sz:=szT P e) (P:=P) hr hx hsrc hsz
  have hlt:o<σ.length:=(List.getElem?_eq_some_iff.1 ho).1
  have hok:=hr.ok o _ ho
  have hver:G.ver o=ver:=hok.1
  have hvs:vs=G.b o:=hs.arr_inv.2.2 hver.symm
  obtain ⟨_,⟨a0,c0,hb0,_⟩,h3⟩:=hok
  simp only [Bool.false_eq_true,if_false] at h3
  have fin:∀ (w':World) (r:Value),(∃ a n c,r= .slice a n c)→ObjOk (G.next o r) w' o (.arr e (szT P e) (xs++ys) (ver+1) false)→
    (∀ g,ownB r=some g→ownB (G.b o)=some g∨w.heap.size≤g)→w'.os=w.os→w'.tape=w.tape→w'.output=w.output→w.heap.size≤w'.heap.size→
    (∀ k,k<w.heap.size→ownB (G.b o)≠some k→w'.heap[k]? =w.heap[k]?)→
    G.le (G.next o r)∧Rel cx (G.next o r) (σ.set o (.arr e (szT P e) (xs++ys) (ver+1) false)) w'∧R (G.next o r) (.arr o (ver+1)) r:=by
    intro w' r hsl hob hown hos htape hout hsize hblock
    have hle:G.le (G.next o r):=Gh.le_next ⟨_,_,_,hb0⟩
    refine ⟨hle,hr.turn o _ _ ho rfl hle rfl rfl (fun i hi=>⟨by simp only [Gh.next];rw [updN_ne _ _ hi],by simp only [Gh.next];rw [updN_ne _ _ hi]⟩) hob
      (fun g hg=>hown g (by simpa [Gh.next,updN_same] using hg)) hos htape hout hsize hblock,?_⟩
    exact .arr _ _ _ (by simp [Gh.next,hr.n,hlt]) (by simp [Gh.next,updN_same,hver]) (fun _=>by simp [Gh.next,updN_same]) hsl
  have hC:(G.next o vs).C=G.C:=rfl
  have hbn:∀ r,(G.next o r).b o=r:=fun r=>by simp [Gh.next,updN_same]
  have hvn:∀ r,(G.next o r).ver o=ver+1:=fun r=>by simp [Gh.next,updN_same,hver]
  by_cases hm:ys.length=0
  ·
   have hy:ys=[]:=List.eq_nil_of_length_eq_zero hm
   subst hy
   have hcap:xs.length≤c0:=by
     rcases h3 with ⟨rfl,_⟩|⟨g,cap,cur,hk⟩
     ·simp
     ·have:=hk.v;rw [hb0] at this;simp at this;rw [this.2];exact hk.le
   have hrun:=run_app_same (a:=a0) (n:=xs.length) (cap:=c0) ha ty (by simpa using k1) (by simpa using k3) hcap
   have:=fin w vs (by rw [hvs,hb0];exact ⟨_,_,_,rfl⟩) (by
     rw [List.append_nil]
     refine ⟨hvn vs,by rw [hbn,hvs];exact (hr.ok o _ ho).2.1,?_⟩
     simp only [Bool.false_eq_true,if_false]
     rw [hbn,hvs]
     rcases h3 with h3|⟨g,cap,cur,hk⟩
     ·exact .inl h3
     ·exact .inr ⟨g,cap,cur,hk.keep (CLe.refl _) rfl hk.unc⟩) (fun g hg=> .inl (by rw [←hvs];exact hg)) rfl rfl rfl (Nat.le_refl _) (fun _ _ _=>rfl)
   refine ⟨vs,w,_,?_,this⟩
   rw [hvs,hb0];exact hrun
  ·rcases h3 with ⟨rfl,a,hae⟩|⟨g,cap,cur,hk⟩
   ·
    have hnil:Src P w (szT P e) (.slice a 0 0) 0 #[]:=⟨fun w'=>by simp [Builtin.lenOf],fun w' _=>by cases a<;>simp [Builtin.firstCells,loadCells,loadCellsFrom]⟩
    obtain ⟨z,hz,newCap,q1,q2,hrun⟩:=run_app_grow ha ty hnil k1 (by omega) (by simpa using hby)
    simp only [Nat.zero_add,Array.empty_append] at hrun q1
    have hrow:RowOk G.C (szT P e) ys (news++Builtin.zeroCells z.cells (newCap - ys.length)):=by
      have:=RowOk.app (C:=G.C) (sz:=szT P e) (xs:=[]) (olds:= #[]) (rest:=Builtin.zeroCells z.cells (newCap - ys.length)) ⟨by simp,by simp,by simp⟩ k2 (by simp) k3
      simpa using this
    have hcur:(news++Builtin.zeroCells z.cells (newCap - ys.length)).size=newCap*szT P e:=by
      rw [Array.size_append,size_zeroCells,hz.2,k3,←Nat.add_mul]
      congr 1;omega
    have:=fin {w.drew with heap:=w.heap.push (.cells (news++Builtin.zeroCells z.cells (newCap - ys.length)) e)} (.slice (some ⟨w.heap.size,0,none⟩) ys.length newCap) ⟨_,_,_,rfl⟩ (by
      refine ⟨hvn _,by rw [hbn];exact ⟨_,_,rfl,fun _=>⟨_,rfl⟩⟩,?_⟩
      simp only [Bool.false_eq_true,if_false]
      rw [hbn]
      exact .inr ⟨w.heap.size,newCap,_,rfl,by omega,⟨(0,0),by simp,by simp⟩,q1,q2,hcur,hrow.wid,fun j hj=>(hrow.flat j hj).2,fun j hj=>(hrow.flat j hj).1,fun j=>hr.no_commit (Nat.le_refl _) j⟩)
      (fun g hg=> .inr (by simp [ownB] at hg;omega)) rfl rfl rfl (by simp) (fun k hk _=>by simp only;rw [Array.getElem?_push,if_neg (by omega)])
    refine ⟨_,_,_,?_,this⟩
    rw [hvs,hae];exact hrun
   ·have hbv:=hk.v
    have hown:ownB (G.b o)=some g:=by have hp:=hk.pos;rw [hbv];simp [ownB];omega
    have hrow0:RowOk G.C (szT P e) xs cur:=RowOk.of_flat hk.wid (by rw [hk.size];exact Nat.mul_le_mul_right _ hk.le) (fun j hj=>⟨hk.rel j hj,hk.one j hj⟩)
    by_cases hroom:xs.length+ys.length≤cap
    ·
     obtain ⟨w',hrun,hb',ht⟩:=run_app_room ha ty k1 hk.blk k3 (k2.one k3) hroom hk.size
     have hrow:=hrow0.room k2 k3 (by rw [hk.size];exact Nat.mul_le_mul_right _ hroom)
     have:=fin w' (.slice (some ⟨g,0,none⟩) (xs.length+ys.length) cap) ⟨_,_,_,rfl⟩ (by
       refine ⟨hvn _,by rw [hbn,List.length_append];exact ⟨_,_,rfl,fun _=>⟨_,rfl⟩⟩,?_⟩
       simp only [Bool.false_eq_true,if_false]
       rw [hbn]
       exact .inr ⟨g,cap,_,by rw [List.length_append],hk.pos,hb',by simpa using hroom,hk.max,by rw [setRangeA_size];exact hk.size,hrow.wid,fun j hj=>(hrow.flat j hj).2,fun j hj=>(hrow.flat j hj).1,hk.unc⟩)
       (fun g' hg'=> .inl (by have hp:=hk.pos;simp [ownB] at hg';rw [hown,hg'.2])) ht.os ht.tape ht.output (by rw [ht.size];exact Nat.le_refl _)
       (fun k _ hk'=>ht.block k (fun e1=>by subst e1;exact hk' hown))
     refine ⟨_,_,_,?_,this⟩
     rw [hvs,hbv];exact hrun
    ·
     have holds:Src P w (szT P e) (.slice (some ⟨g,0,none⟩) xs.length cap) xs.length ((List.range (xs.length*szT P e)).map fun j=>cur.getD j undef).toArray:=by
       refine ⟨fun w'=>by simp [Builtin.lenOf],fun w' hh=>?_⟩
       have:=loadCells_run (P:=P) (w:=w') g 0 (xs.length*szT P e) (fun j=>cur.getD j undef) (fun j hj=>by
         have:w'.cell? ⟨g,0+j,none⟩=w.cell? ⟨g,0+j,none⟩:=by simp [World.cell?,hh]
         rw [this,Nat.zero_add]
         exact hk.blk.cellD (by rw [hk.size];exact Nat.lt_of_lt_of_le hj (Nat.mul_le_mul_right _ hk.le)))
       simpa [Builtin.firstCells] using this
     have hro:RowOk G.C (szT P e) xs ((List.range (xs.length*szT P e)).map fun j=>cur.getD j undef).toArray:=by
       refine ⟨hk.wid,by simp,fun i j hi hj=>?_⟩
       have hlt:=idx_lt hi hj
       have e2:(((List.range (xs.length*szT P e)).map fun j=>cur.getD j undef).toArray).getD (i*szT P e+j) undef=cur.getD (i*szT P e+j) undef:=by simp [hlt]
       rw [e2]
       exact hrow0.rel i j hi hj
     obtain ⟨z,hz,newCap,q1,q2,hrun⟩:=run_app_grow ha ty holds k1 (by omega) hby
     have hrow:=hro.app k2 (by simp) k3 (rest:=Builtin.zeroCells z.cells (newCap - (xs.length+ys.length)))
     have hcur:(((List.range (xs.length*szT P e)).map fun j=>cur.getD j undef).toArray++news++Builtin.zeroCells z.cells (newCap - (xs.length+ys.length))).size=newCap*szT P e:=by
       rw [Array.size_append,Array.size_append,size_zeroCells,hz.2,k3]
       simp only [List.size_toArray,List.length_map,List.length_range]
       rw [←Nat.add_mul,←Nat.add_mul]
       congr 1;omega
     have:=fin {w.drew with heap:=w.heap.push (.cells (((List.range (xs.length*szT P e)).map fun j=>cur.getD j undef).toArray++news++Builtin.zeroCells z.cells (newCap - (xs.length+ys.length))) e)}
       (.slice (some ⟨w.heap.size,0,none⟩) (xs.length+ys.length) newCap) ⟨_,_,_,rfl⟩ (by
       refine ⟨hvn _,by rw [hbn,List.length_append];exact ⟨_,_,rfl,fun _=>⟨_,rfl⟩⟩,?_⟩
       simp only [Bool.false_eq_true,if_false]
       rw [hbn]
       exact .inr ⟨w.heap.size,newCap,_,by rw [List.length_append],by omega,⟨(0,0),by simp,by simp⟩,by simpa using q1,q2,hcur,hrow.wid,fun j hj=>(hrow.flat j hj).2,fun j hj=>(hrow.flat j hj).1,fun j=>hr.no_commit (Nat.le_refl _) j⟩)
       (fun g hg=> .inr (by simp [ownB] at hg;omega)) rfl rfl rfl (by simp) (fun k hk _=>by simp only;rw [Array.getElem?_push,if_neg (by omega)])
     refine ⟨_,_,_,?_,this⟩
     rw [hvs,hbv];exact hrun
theorem Rel.cutArr (hr:Rel cx G σ w) {o ver sz hi:Nat} {e:TypeId} {xs:List AV} {v:Value} (ho:σ[o]? =some (.arr e sz xs ver false)) (hx:R G (.sub o ver sz 0 hi) v):
    ∃ G',G.le G'∧Rel cx G' (σ.set o (.arr e sz (xs.take hi) (ver+1) false)) w∧R G' (.arr o (ver+1)) v:=by
  have hlt:o<σ.length:=(List.getElem?_eq_some_iff.1 ho).1
  have hok:=hr.ok o _ ho
  have hver:G.ver o=ver:=hok.1
  have hsub:=hx.sub_inv.2.2 hver.symm
  obtain ⟨a0,c0,hb0,_⟩:=hok.2.1
  have h3:=hok.2.2
  simp only [Bool.false_eq_true,if_false] at h3
  have hle:G.le (G.next o v):=Gh.le_next ⟨_,_,_,hb0⟩
  have hbn:(G.next o v).b o=v:=by simp [Gh.next,updN_same]
  have hvn:(G.next o v).ver o=ver+1:=by simp [Gh.next,updN_same,hver]
  have hsl:∃ a n c,v= .slice a n c:=hx.sub_slice
  have key:ObjOk (G.next o v) w o (.arr e sz (xs.take hi) (ver+1) false)∧∀ g,ownB v=some g→ownB (G.b o)=some g:=by
    obtain ⟨_,⟨_,rfl,a,hb,rfl⟩|⟨g,n,cap,off,k1,k2,k3,hb,rfl,k4⟩⟩:=hsub
    ·refine ⟨⟨hvn,by rw [hbn];exact ⟨a,0,by simp,by simp⟩,?_⟩,fun g hg=>by cases a<;>simp [ownB] at hg⟩
     simp only [Bool.false_eq_true,if_false]
     rw [hbn]
     exact .inl ⟨by simp,a,rfl⟩
    ·rcases h3 with ⟨rfl,a,ha⟩|⟨g',cap',cur,ha⟩
     ·rw [hb] at ha
      simp at ha
      obtain ⟨rfl,rfl,rfl⟩:=ha
      have:hi=0:=by omega
      subst this
      refine ⟨⟨hvn,by rw [hbn];exact ⟨some ⟨g,off,none⟩,0,by simp,by simp⟩,?_⟩,fun g hg=>by simp [ownB] at hg⟩
      simp only [Bool.false_eq_true,if_false]
      rw [hbn]
      exact .inl ⟨by simp,some ⟨g,off,none⟩,by simp⟩
     ·have hv:=ha.v
      rw [hb] at hv
      simp only [Value.slice.injEq,Option.some.injEq,Addr.mk.injEq] at hv
      obtain ⟨⟨rfl,_,_⟩,rfl,rfl⟩:=hv
      have hpos:=ha.pos
      have e0:off=0:=by rw [k4 hpos];simp
      subst e0
      have hl:(xs.take hi).length=hi:=by simp;omega
      have hrow:RowOk G.C sz (xs.take hi) cur:=by
        have h0:RowOk G.C sz xs cur:=RowOk.of_flat ha.wid (by rw [ha.size];exact Nat.mul_le_mul_right _ ha.le) (fun j hj=>⟨ha.rel j hj,ha.one j hj⟩)
        refine ⟨fun x hx=>h0.wid x (List.mem_of_mem_take hx),by rw [hl];exact Nat.le_trans (Nat.mul_le_mul_right _ k1) h0.le,fun i j hi' hj=>?_⟩
        rw [getD_take' (by rw [hl] at hi';exact hi')]
        exact h0.rel i j (by rw [hl] at hi';omega) hj
      refine ⟨⟨hvn,by rw [hbn];exact ⟨_,cap,by rw [hl];rfl,fun _=>⟨g,rfl⟩⟩,?_⟩,fun g'' hg=>by rw [hb];simpa [ownB] using hg⟩
      simp only [Bool.false_eq_true,if_false]
      rw [hbn]
      exact .inr ⟨g,cap,cur,by rw [hl];rfl,hpos,ha.blk,by rw [hl];omega,k3,ha.size,hrow.wid,fun j hj=>(hrow.flat j hj).2,fun j hj=>(hrow.flat j hj).1,ha.unc⟩
  refine ⟨G.next o v,hle,hr.turn o _ _ ho rfl hle rfl rfl (fun i hi=>⟨by simp only [Gh.next];rw [updN_ne _ _ hi],by simp only [Gh.next];rw [updN_ne _ _ hi]⟩) key.1
      (fun g hg=> .inl (key.2 g (by rwa [hbn] at hg))) rfl rfl rfl (Nat.le_refl _) (fun _ _ _=>rfl),?_⟩
  exact .arr _ _ _ (by simp [Gh.next,hr.n,hlt]) (by simp [Gh.next,updN_same,hver]) (fun _=>by simp [Gh.next,updN_same]) hsl
theorem setRange_mem {ys:List AV} {q:AV→Prop}:∀ {cs:List AV} {off:Nat},(∀ x∈cs,q x)→(∀ y∈ys,q y)→∀ x∈setRange cs off ys,q x:=by
  induction ys with
  |nil=>intro cs off h _;exact h
  |cons y ys ih=>
   intro cs off h k
   exact ih (fun x hx=>by rcases List.mem_or_eq_of_mem_set hx with hx|rfl;exact h x hx;exact k _ (by simp)) (fun z hz=>k z (by simp [hz]))
theorem RowOk.over {C:Nat→Nat→Option Value} {sz lo:Nat} {xs ys:List AV} {cur news:Array Value} (h:RowOk C sz xs cur) (k:RowOk C sz ys news) (ks:news.size=ys.length*sz)
    (hl:lo+ys.length≤xs.length):RowOk C sz (setRange xs lo ys) (setRangeA cur (lo*sz) news.toList):=by
  have hnl:news.toList.length=ys.length*sz:=by simpa using ks
  have hfit:lo*sz+ys.length*sz≤cur.size:=by
    rw [←Nat.add_mul];exact Nat.le_trans (Nat.mul_le_mul_right _ hl) h.le
  refine ⟨setRange_mem h.wid k.wid,by rw [setRangeA_size,setRange_length];exact h.le,fun i j hi hj=>?_⟩
  rw [setRange_length] at hi
  rw [setRange_getD _ _ _ _ hl,setRangeA_getD _ _ _ _ (by rw [hnl];exact hfit),hnl]
  by_cases e:lo≤i∧i<lo+ys.length
  ·have e1:lo*sz≤i*sz:=Nat.mul_le_mul_right _ e.1
   have e2:i*sz=(i - lo)*sz+lo*sz:=by rw [←Nat.add_mul];congr 1;omega
   have e3:(i - lo)*sz+j<ys.length*sz:=idx_lt (by omega) hj
   rw [if_pos e,if_pos (by omega)]
   have:=k.rel (i - lo) j (by omega) hj
   rw [arr_getD] at this
   rwa [show i*sz+j - lo*sz=(i - lo)*sz+j by omega]
  ·rw [if_neg e]
   have hne: ¬ (lo*sz≤i*sz+j∧i*sz+j<lo*sz+ys.length*sz):=by
     intro hh
     rcases Nat.lt_or_ge i lo with h1|h1
     ·have:(i+1)*sz≤lo*sz:=Nat.mul_le_mul_right _ h1
      rw [Nat.add_mul] at this;omega
     ·have h2:lo+ys.length≤i:=by omega
      have:(lo+ys.length)*sz≤i*sz:=Nat.mul_le_mul_right _ h2
      rw [Nat.add_mul] at this;omega
   rw [if_neg hne]
   exact h.rel i j hi hj
theorem src_part {x:AV} {v:Value} {sz sz' n:Nat} {ys:List AV} (hr:Rel cx G σ w) (hx:R G x v) (h:slOf σ x=some (sz',ys)) (hs:sz'=sz∨ys=[]) (hn:n≤ys.length):
    ∃ news,(Builtin.lenOf v).run P w= .ok ys.length w∧(Builtin.firstCells sz n v).run P w= .ok news w∧RowOk G.C sz (ys.take n) news∧news.size=n*sz:=by
  have hl:(ys.take n).length=n:=by simp;omega
  have zero:n=0→∀ {a:Option Addr} {cap:Nat},(Builtin.firstCells sz n (.slice a ys.length cap)).run P w= .ok #[] w∧RowOk G.C sz (ys.take n) #[]∧(#[]:Array Value).size=n*sz:=by
    intro e a cap
    subst e
    refine ⟨?_,⟨by simp,by simp,by simp⟩,by simp⟩
    cases a<;>simp [Builtin.firstCells,loadCells,loadCellsFrom]
  rcases slOf_cells hr hx h with ⟨rfl,a,cap,rfl⟩|⟨b,off,cap,f,rfl,hw,hC,h1,hR⟩
  ·have e:n=0:=by simpa using hn
   obtain ⟨z1,z2,z3⟩:=zero e (a:=a) (cap:=cap)
   exact ⟨#[],by simp [Builtin.lenOf],z1,z2,z3⟩
  ·by_cases e:n=0
   ·obtain ⟨z1,z2,z3⟩:=zero e (a:=some ⟨b,off,none⟩) (cap:=cap)
    exact ⟨#[],by simp [Builtin.lenOf],z1,z2,z3⟩
   ·have hs':sz'=sz:=by rcases hs with h|h;exact h;subst h;simp at hn;omega
    subst hs'
    have hfl:=flat_length hw
    have hle:n*sz'≤(flat ys).length:=by rw [hfl];exact Nat.mul_le_mul_right _ hn
    have hw':∀ x∈ys.take n,x.cells.length=sz':=fun x hx=>hw x (List.mem_of_mem_take hx)
    refine ⟨((List.range (n*sz')).map f).toArray,by simp [Builtin.lenOf],?_,⟨hw',by simp [hl],fun i j hi hj=>?_⟩,by simp⟩
    ·have:=loadCells_run (P:=P) (w:=w) b off (n*sz') f (fun j hj=>hC j (by omega))
     simpa [Builtin.firstCells] using this
    ·rw [hl] at hi
     have hlt:=idx_lt hi hj
     have e2:(((List.range (n*sz')).map f).toArray).getD (i*sz'+j) undef=f (i*sz'+j):=by simp [hlt]
     rw [e2,getD_take' hi]
     have:=hR (i*sz'+j) (by omega)
     rw [flat_getD hw i j (by omega) hj] at this
     exact ⟨this,h1 _ (by omega)⟩
theorem Rel.copySub (hr:Rel cx G σ w) {o ver sz sz' lo hi:Nat} {e t:TypeId} {xs ys:List AV} {x:AV} {vd vx:Value} {ats:Array TypeId} {ty:TypeId} (ht:ats[0]? =some t) (hu:P.underlying t=some (.slice e)) (hsz:szT P e=sz) (hpos:0<sz)
    (ho:σ[o]? =some (.arr e sz xs ver false)) (hd:SubOf (G.b o) sz lo hi vd) (hx:R G x vx) (hsrc:slOf σ x=some (sz',ys)) (hs:sz'=sz∨ys=[]):
    ∃ w',(Builtin.copy_ ats ty #[vd,vx]).run P w= .ok (goInt ((min ys.length (hi - lo):Nat):Int)) w'∧Rel cx G (σ.set o (.arr e sz (setRange xs lo (ys.take (min ys.length (hi - lo)))) ver false)) w':=by
  obtain ⟨news,k1,k2,k3,k4⟩:=src_part (P:=P) (n:=min ys.length (hi - lo)) hr hx hsrc hs (Nat.min_le_left _ _)
  have hl:(ys.take (min ys.length (hi - lo))).length=min ys.length (hi - lo):=by simp
  have hsize:(sizeOf e).run P w= .ok sz w:=by rw [←hsz];exact szT_info (by omega)
  have hok:=hr.ok o _ ho
  have h3:=hok.2.2
  simp only [Bool.false_eq_true,if_false] at h3
  have same:min ys.length (hi - lo)=0→(∃ a c,vd= .slice a (hi - lo) c)→∃ w',(Builtin.copy_ ats ty #[vd,vx]).run P w= .ok (goInt ((min ys.length (hi - lo):Nat):Int)) w'∧Rel cx G (σ.set o (.arr e sz (setRange xs lo (ys.take (min ys.length (hi - lo)))) ver false)) w':=by
    intro e0 ⟨a,c,hv⟩
    have en:news= #[]:=Array.eq_empty_of_size_eq_zero (by rw [k4,e0];simp)
    have eσ:σ.set o (.arr e sz (setRange xs lo (ys.take (min ys.length (hi - lo)))) ver false)=σ:=by
      rw [e0];simp only [List.take_zero,setRange]
      apply List.ext_getElem?
      intro i
      by_cases e:i=o
      ·subst e;rw [List.getElem?_set_self (List.getElem?_eq_some_iff.1 ho).1,ho]
      ·rw [List.getElem?_set_ne (by omega)]
    refine ⟨w,?_,by rw [eσ];exact hr⟩
    subst hv en
    have k2':(Builtin.firstCells sz (Nat.min ys.length (hi - lo)) vx).run P w= .ok #[] w:=k2
    cases a<;>simp [Builtin.copy_,ht,run_und hu,k1,hsize,k2',storeCells]<;>rfl
  by_cases e0:min ys.length (hi - lo)=0
  ·exact same e0 hd.slice
  ·obtain ⟨hle,⟨rfl,rfl,a,hb,rfl⟩|⟨g,n,cap,off,q1,q2,q3,hb,rfl,q4⟩⟩:=hd
   ·simp at e0
   ·rcases h3 with ⟨rfl,a,ha⟩|⟨g',cap',cur,ha⟩
    ·rw [hb] at ha;simp at ha;omega
    ·have hv:=ha.v
     rw [hb] at hv
     simp only [Value.slice.injEq,Option.some.injEq,Addr.mk.injEq] at hv
     obtain ⟨⟨rfl,_,_⟩,rfl,rfl⟩:=hv
     have hlo:lo<cap:=by omega
     rw [q4 hlo]
     have hrow0:RowOk G.C sz xs cur:=RowOk.of_flat ha.wid (by rw [ha.size];exact Nat.mul_le_mul_right _ ha.le) (fun j hj=>⟨ha.rel j hj,ha.one j hj⟩)
     have hfit:lo+(ys.take (min ys.length (hi - lo))).length≤xs.length:=by rw [hl];omega
     have hrow:=hrow0.over k3 (by rw [k4,hl]) hfit
     have hf2:lo*sz+0+news.toList.length≤cur.size:=by
       have:(lo+min ys.length (hi - lo))*sz≤cap*sz:=Nat.mul_le_mul_right _ (by omega)
       rw [Nat.add_mul] at this
       simp [k4,ha.size];omega
     obtain ⟨w',p1,p2,p3⟩:=storeCells_run (P:=P) g (lo*sz) e news.toList 0 cur w ha.blk hf2 (k3.one (by rw [k4,hl]))
     have hp:=ha.pos
     refine ⟨w',?_,hr.touch (g:=g) ho rfl (by rw [hb];simp [ownB];omega) p3 ⟨hok.1,by rw [setRange_length];exact ⟨_,_,hb,fun _=>⟨g,rfl⟩⟩,?_⟩⟩
     ·have k2':(Builtin.firstCells sz (Nat.min ys.length (hi - lo)) vx).run P w= .ok news w:=k2
      simp [Builtin.copy_,ht,run_und hu,k1,hsize,k2',p1]
      try rfl
     ·simp only [Bool.false_eq_true,if_false]
      refine .inr ⟨g,cap,_,by rw [setRange_length];exact ha.v,ha.pos,by simpa using p2,by rw [setRange_length];exact ha.le,ha.max,by rw [setRangeA_size];exact ha.size,hrow.wid,
        fun j hj=>(hrow.flat j hj).2,fun j hj=>(hrow.flat j hj).1,ha.unc⟩
end Go.Fw

namespace Go.Fw
open Go
set_option linter.unusedSectionVars false
variable [TB]
variable {P:Program} {E:Env} {cx:Cx} {G:Gh} {σ:List AObj} {w:World}
def appE (P:Program) (σ:List AObj) (ats:Array TypeId) (s x:AV) (k:AV→List AObj→Prop):Option Prop:=
  match appT P ats,srcOf σ x with
  |some e,some (sz',ys)=>match s with
   |.lit (.slice none 0 0)=>if sz'=szT P e∨ys=[] then
      some (ys.length*byT P e≤140737488355328∧k (.arr σ.length 0) (σ++[.arr e (szT P e) ys 0 false])) else none
   |.sl true sz xs=>if (sz'=sz∨ys=[])∧sz=szT P e then
      some (((xs=[]∨0<ys.length)∧(xs.length+ys.length)*byT P e≤140737488355328)∧k (.arr σ.length 0) (σ++[.arr e sz (xs++ys) 0 false])) else none
   |.arr o ver=>match σ[o]? with
    |some (.arr e' sz xs ver' false)=>if ver=ver'∧e'=e∧sz=szT P e∧(sz'=sz∨ys=[]) then
       some ((xs.length+ys.length)*byT P e≤140737488355328∧k (.arr o (ver+1)) (σ.set o (.arr e sz (xs++ys) (ver+1) false))) else none
    |_=>none
   |.sub o ver sz0 lo hi=>match σ[o]? with
    |some (.arr e' sz xs ver' false)=>(match srcOf (σ.set o (.arr e' sz (xs.take hi) (ver+1) false)) x with
     |some (sz2,zs)=>if lo=0∧ver=ver'∧e'=e∧sz=szT P e∧sz0=sz∧(sz2=sz∨zs=[]) then
      some (((xs.take hi).length+zs.length)*byT P e≤140737488355328∧k (.arr o (ver+2)) (σ.set o (.arr e sz (xs.take hi++zs) (ver+2) false))) else none
     |none=>none)
    |_=>none
   |_=>none
  |_,_=>none
def storeE (P:Program) (σ:List AObj) (t:TypeId) (a x:AV) (k:AV→List AObj→Prop):Option Prop:=
  match a with
  |.ref o off=>match σ[o]? with
   |some (.box t' cs)=>if x.solid=true∧x.cells.length=szT P t∧0<szT P t∧off+szT P t≤cs.length then
      some (k (.lit undef) (σ.set o (.box t' (setRange cs off x.cells)))) else none
   |_=>none
  |.eref o ver sz i j=>
   match (freezeL σ (ids1 x))[o]?,close1 false (freezeL σ (ids1 x)) x with
   |some (.arr e sz' xs ver' false),some y=>if j=0∧ver=ver'∧sz=sz'∧szT P t=sz∧0<sz∧y.solid=true∧y.cells.length=sz then
      some (i<xs.length∧k (.lit undef) ((freezeL σ (ids1 x)).set o (.arr e sz (xs.set i y) ver false)))
    else if ver=ver'∧sz=sz'∧0<szT P t∧j+szT P t≤sz∧y.solid=true∧y.cells.length=szT P t then (match xs.getD i .top with
      |.agg cs=>some (i<xs.length∧k (.lit undef) ((freezeL σ (ids1 x)).set o (.arr e sz (xs.set i (.agg (setRange cs j y.cells))) ver false)))
      |_=>none)
    else none
   |_,_=>none
  |_=>none
def makeE (P:Program) (E:Env) (σ:List AObj) (t:TypeId) (l c:AV) (k:AV→List AObj→Prop):Option Prop:=
  match l,c,P.underlying t with
  |.lit (.int _ l),.lit (.int _ c),some (.slice e)=>if (E.zero e).solid=true∧(E.zero e).cells.length=szT P e∧0<szT P e∧0<byT P e∧zOk P e=true then
     some ((0≤l∧l≤c∧c*(byT P e:Int)≤140737488355328)∧k (.arr σ.length 0) (σ++[.arr e (szT P e) (List.replicate l.toNat (E.zero e)) 0 false])) else none
  |_,_,_=>none
def bytesE (P:Program) (σ:List AObj) (s d:TypeId) (x:AV) (k:AV→List AObj→Prop):Option Prop:=
  match P.underlying s,P.underlying d,x with
  |some .string,some (.slice e),.lit (.string b)=>match P.underlying e with
   |some (.int .u8)=>if szT P e=1 then some ((b.size≤140737488355328)∧k (.arr σ.length 0) (σ++[.arr e 1 (u8s b) 0 false])) else none
   |_=>none
  |some (.slice _),some (.slice e),.arr o ver=>match P.underlying e,σ[o]? with
   |some (.int .u8),some (.arr _ _ xs ver' fz)=>if s=d∧ver'=ver∧fz=false∧xs.isEmpty=false then some (k (.arr o ver) σ) else none
   |_,_=>none
  |_,_,_=>none
def isU8:AV→Bool
  |.lit (.int .u8 _)=>true
  |.ref _ _=>true
  |_=>false
def refsOk:Nat→List (Nat×AV)→Bool
  |_,[]=>true
  |i,(j,.ref _ _)::l=>decide (j=i)&&refsOk (i+1) l
  |_,_=>false
def buildE (P:Program) (E:Env) (b:Bool) (σ:List AObj) (t:TypeId) (len:Nat) (parts:List (Nat×AV)) (k:AV→List AObj→Prop):Option Prop:=
  match b with
  |false=>none
  |true=>if parts.isEmpty=false∧(parts.all fun p=>isU8 p.2)=true then
   (match P.underlying t,buildSliceV P E σ t len parts with
   |some (.slice e),some (p,.sl true sz xs)=>if sz=szT P e∧0<len then some (p∧k (.arr σ.length 0) (σ++[.arr e sz xs 0 false])) else none
   |some (.slice e),none=>if refsOk 0 parts=true∧parts.length=len∧szT P e=1∧0<len∧len≤1000∧(P.underlying e).isSome=true∧(zeroT P e).isSome=true then some (k (.bsl σ.length len) (σ++[.box e (parts.map (·.2))])) else none
   |_,_=>none) else none
def snilE (P:Program) (σ:List AObj) (op:BinOp) (t:TypeId) (x y:AV) (k:AV→List AObj→Prop):Option Prop:=
  if isNilS y=true then (match P.underlying t,slOf σ x with
   |some (.slice _),some (_,xs)=>match op with
    |.eql=>some ((xs=[]→k (.lit (.bool true)) σ)∧k (.lit (.bool false)) σ)
    |.neq=>some ((xs=[]→k (.lit (.bool false)) σ)∧k (.lit (.bool true)) σ)
    |_=>none
   |some (.slice _),none=>if isNilS x=true then (match op with
    |.eql=>some (k (.lit (.bool true)) σ)
    |.neq=>some (k (.lit (.bool false)) σ)
    |_=>none) else none
   |_,_=>none) else none
def mapE (P:Program) (σ:List AObj) (t:TypeId) (m key x:AV) (k:AV→List AObj→Prop):Option Prop:=
  match P.underlying t,m,key with
  |some (.map kt _),.mp o,.lit kv=>match (freezeL σ (ids1 x))[o]?,close1 false (freezeL σ (ids1 x)) x,P.underlying kt with
   |some (.map es),some y,some d=>if keyT d=true then (match putA d kv y es with
    |some es'=>some (k (.lit undef) ((freezeL σ (ids1 x)).set o (.map es')))
    |none=>none) else none
   |_,_,_=>none
  |_,_,_=>none
def makeMapE (σ:List AObj) (r:Option AV) (k:AV→List AObj→Prop):Option Prop:=
  match r with
  |none=>some (k (.mp σ.length) (σ++[.map []]))
  |_=>none
def srcN (σ:List AObj):AV→Option (Nat×List AV)
  |.lit (.slice none 0 0)=>some (0,[])
  |x=>slOf σ x
def copyT (P:Program) (ats:Array TypeId):Option TypeId:=match ats[0]? with
  |some t=>match P.underlying t with
   |some (.slice e)=>some e
   |_=>none
  |none=>none
def dstOf (σ:List AObj):AV→Option (Nat×Nat×Nat×Nat×Nat×Nat×List AV)
  |.arr o ver=>match σ[o]? with
   |some (.arr e sz xs ver' false)=>if ver=ver' then some (o,ver,e,sz,0,xs.length,xs) else none
   |_=>none
  |.sub o ver sz0 lo hi=>match σ[o]? with
   |some (.arr e sz xs ver' false)=>if ver=ver'∧sz0=sz then some (o,ver,e,sz,lo,hi,xs) else none
   |_=>none
  |_=>none
def copyE (P:Program) (σ:List AObj) (ats:Array TypeId) (d s:AV) (k:AV→List AObj→Prop):Option Prop:=
  match copyT P ats,srcN σ s,dstOf σ d with
  |some e,some (sz',ys),some (o,ver,e',sz,lo,hi,xs)=>if e'=e∧szT P e=sz∧0<sz∧(sz'=sz∨ys=[]) then
     some (k (.lit (.int .i64 ((min ys.length (hi - lo):Nat):Int))) (σ.set o (.arr e sz (setRange xs lo (ys.take (min ys.length (hi - lo)))) ver false))) else none
  |_,_,_=>none
def panE (E:Env) (σ:List AObj) (x:AV):Option Prop:=match x with
  |.lit (.iface t v)=>some (E.px (.lit (.iface t v)) σ)
  |_=>none
def callE (E:Env) (σ:List AObj) (f:AV) (args:List AV) (k:AV→List AObj→Prop):Option Prop:=
  match targetOf f args with
  |some (g,as)=>match closeL1 true σ as with
   |some as'=>match E.pc g as' with
    |some (p,r)=>if scal2 r=true then some (p∧k r σ) else
       match closeL1 false (freezeL σ (as.flatMap ids1)) as with
       |some as''=>match E.pc g as'' with
        |some (p,r)=>some (p∧k r (freezeL σ (as.flatMap ids1)))
        |none=>none
       |none=>none
    |none=>some (E.ec g as σ k)
   |none=>some (E.ec g as σ k)
  |none=>none
def aeff (P:Program) (E:Env) (ev:Operand→AV) (σ:List AObj) (o:Oper) (k:AV→List AObj→Prop):Option Prop:=
  match o.op with
  |.alloc t=>if (E.zero t).solid=true∧(zeroT P t).isSome=true then some (k (.ref σ.length 0) (σ++[.box t (E.zero t).cells])) else none
  |.box t x=>if (ev x).solid=true then some (k (.ref σ.length 0) (σ++[.box t (ev x).cells])) else none
  |.store t a x=>storeE P σ t (ev a) (ev x) k
  |.makeSlice t l c=>makeE P E σ t (ev l) (ev c) k
  |.convert s d x=>bytesE P σ s d (ev x) k
  |.buildSlice t len ps=>buildE P E (E.wr (o.dst.getD 0)) σ t len (ps.toList.map fun p=>(p.1,ev p.2)) k
  |.binOp op t x y _=>snilE P σ op t (ev x) (ev y) k
  |.makeMap _ r=>makeMapE σ (r.map ev) k
  |.mapUpdate t m key x=>mapE P σ t (ev m) (ev key) (ev x) k
  |.insert t m key x=>mapE P σ t (ev m) (ev key) (ev x) k
  |.panic x=>panE E σ (ev x)
  |.call c=>match c.callee with
   |.builtin b=>if isApp b=true then (match c.args.toList with
      |[s,x]=>appE P σ c.argTypes (ev s) (ev x) k
      |_=>none) else if isCopy b=true then (match c.args.toList with
      |[d,s]=>copyE P σ c.argTypes (ev d) (ev s) k
      |_=>none) else none
   |.value f=>callE E σ (ev f) (c.args.toList.map ev) k
   |_=>none
  |_=>none
def avop (P:Program) (E:Env) (ev:Operand→AV) (σ:List AObj) (o:Oper) (k:AV→List AObj→Prop):Prop:=
  match aeff P E ev σ o k with
  |some p=>p
  |none=>match pval P E ev σ o with
   |some (p,x)=>p∧k x σ
   |none=>False
theorem Ends.mono {k k':AV→List AObj→Prop} (hk:∀ x σ,k x σ→k' x σ) {e:Ending} {w':World} (h:Ends cx G k e w'):Ends cx G k' e w':=by
  cases e with
  |returned v=>obtain ⟨G',σ',x,h1,h2,h3,h4⟩:=h;exact ⟨G',σ',x,h1,h2,h3,hk _ _ h4⟩
  |panicked c=>exact h
  |outgrown=>exact h
theorem Pan.le {G0:Gh} (hG:G0.le G) {c:List PanicEntry} {w':World} (h:Pan cx G c w'):Pan cx G0 c w':=by
  obtain ⟨v,G',σ',x,h0,h1,h2,h3,h4⟩:=h;exact ⟨v,G',σ',x,h0,hG.trans h1,h2,h3,h4⟩
theorem Ends.le {G0:Gh} (hG:G0.le G) {k:AV→List AObj→Prop} {e:Ending} {w':World} (h:Ends cx G k e w'):Ends cx G0 k e w':=by
  cases e with
  |returned v=>obtain ⟨G',σ',x,h1,h2,h3,h4⟩:=h;exact ⟨G',σ',x,hG.trans h1,h2,h3,h4⟩
  |panicked c=>exact Pan.le hG h
  |outgrown=>exact h
theorem Yield.mono {k k':AV→List AObj→Prop} (hk:∀ x σ,k x σ→k' x σ) {r:Result Next} (h:Yield P cx G k r):Yield P cx G k' r:=by
  cases r with
  |ok n w'=>
   cases n with
   |value v=>obtain ⟨G',σ',x,h1,h2,h3,h4⟩:=h;exact ⟨G',σ',x,h1,h2,h3,hk _ _ h4⟩
   |skip=>obtain ⟨G',σ',x,h1,h2,h3,h4⟩:=h;exact ⟨G',σ',x,h1,h2,h3,hk _ _ h4⟩
   |enter f args=>exact Calls.mono h fun e w'' h=>h.mono hk
   |_=>exact h.elim
  |halt x w'=>cases x<;>exact h
theorem Yield.le {G0:Gh} (hG:G0.le G) {k:AV→List AObj→Prop} {r:Result Next} (h:Yield P cx G k r):Yield P cx G0 k r:=by
  cases r with
  |ok n w'=>
   cases n with
   |value v=>obtain ⟨G',σ',x,h1,h2,h3,h4⟩:=h;exact ⟨G',σ',x,hG.trans h1,h2,h3,h4⟩
   |skip=>obtain ⟨G',σ',x,h1,h2,h3,h4⟩:=h;exact ⟨G',σ',x,hG.trans h1,h2,h3,h4⟩
   |enter f args=>exact Calls.mono h fun e w'' h=>h.le hG
   |_=>exact h.elim
  |halt x w'=>cases x<;>first|exact Pan.le hG h|exact h.elim
theorem Rel.appendNew (hr:Rel cx G σ w) {olds:Array Value} {sz':Nat} {e:TypeId} {xs ys:List AV} {ats:Array TypeId} {x:AV} {vx:Value} {a:Option Addr} (ty:TypeId) (ha:appT P ats=some e)
    (hs:Src P w (szT P e) (.slice a xs.length xs.length) xs.length olds) (hro:RowOk G.C (szT P e) xs olds) (hos:olds.size=xs.length*szT P e)
    (hx:R G x vx) (hsrc:srcOf σ x=some (sz',ys)) (hsz:sz'=szT P e∨ys=[]) (hne:xs=[]∨0<ys.length)
    (hby:(xs.length+ys.length)*byT P e≤140737488355328):
    ∃ r w' G',(Builtin.append_ ats ty #[.slice a xs.length xs.length,vx]).run P w= .ok r w'∧G.le G'∧Rel cx G' (σ++[.arr e (szT P e) (xs++ys) 0 false]) w'∧R G' (.arr σ.length 0) r:=by
  obtain ⟨news,k1,k2,k3⟩:=srcOf_sound (sz:=szT P e) (P:=P) hr hx hsrc hsz
  by_cases hm:ys.length=0
  ·have hy:ys=[]:=List.eq_nil_of_length_eq_zero hm
   subst hy
   have hx0:xs=[]:=by rcases hne with h|h;exact h;simp at h
   subst hx0
   obtain ⟨G',h1,h2,h3⟩:=hr.newEmpty e (szT P e) a
   exact ⟨_,w,G',run_app_same ha ty (by simpa using k1) (by simpa using k3) (Nat.le_refl _),h1,by simpa using h2,h3⟩
  ·obtain ⟨z,hz,newCap,q1,q2,hrun⟩:=run_app_grow ha ty hs k1 (by omega) hby
   have hrow:=hro.app k2 hos k3 (rest:=Builtin.zeroCells z.cells (newCap - (xs.length+ys.length)))
   have hcur:(olds++news++Builtin.zeroCells z.cells (newCap - (xs.length+ys.length))).size=newCap*szT P e:=by
     rw [Array.size_append,Array.size_append,size_zeroCells,hz.2,k3,hos,←Nat.add_mul,←Nat.add_mul]
     congr 1;omega
   obtain ⟨G',h1,h2,h3⟩:=hr.newArr e (szT P e) (cap:=newCap) (fz:=(0,0)) hrow (by omega) (by simpa using q1) q2 hcur (by simp)
   refine ⟨_,_,G',hrun,h1,h2.more (More.drawn _ (w.drawn+1)),by simpa using h3⟩
theorem appE_sound (hr:Rel cx G σ w) {ats:Array TypeId} {s x:AV} {vs vx:Value} {k:AV→List AObj→Prop} {q:Prop} (ty:TypeId) (hs:R G s vs) (hx:R G x vx) (h:appE P σ ats s x k=some q) (hq:q):
    ∃ r w' G' σ' y,(Builtin.append_ ats ty #[vs,vx]).run P w= .ok r w'∧G.le G'∧Rel cx G' σ' w'∧R G' y r∧k y σ':=by
  unfold appE at h
  split at h
  ·rename_i e sz' ys ha hsrc
   split at h
   ·split at h
    ·rename_i hsz
     cases h
     obtain ⟨hb,hk⟩:=hq
     rw [hs.lit_inv]
     have hnil:Src P w (szT P e) (.slice none 0 0) 0 #[]:=⟨fun w'=>by simp [Builtin.lenOf],fun w' _=>by simp [Builtin.firstCells]⟩
     obtain ⟨r,w',G',h1,h2,h3,h4⟩:=hr.appendNew (xs:=[]) (a:=none) ty ha hnil ⟨by simp,by simp,by simp⟩ (by simp) hx hsrc hsz (.inl rfl) (by simpa using hb)
     exact ⟨r,w',G',_,_,h1,h2,by simpa using h3,h4,hk⟩
    ·cases h
   ·rename_i sz xs
    split at h
    ·rename_i hc
     obtain ⟨hsz,rfl⟩:=hc
     cases h
     obtain ⟨⟨hn,hb⟩,hk⟩:=hq
     obtain ⟨olds,o1,o2,o3⟩:=srcOf_sound (sz:=szT P e) (P:=P) hr hs (sz':=szT P e) (ys:=xs) (by simp [srcOf,slOf]) (.inl rfl)
     have hcap:∃ a,vs= .slice a xs.length xs.length:=by
       cases hs.sl_inv with
       |nil _ _ a=>exact ⟨a,rfl⟩
       |sl _ _ _ b off cap f hc hm hf=>exact ⟨_,by rw [hf rfl]⟩
     obtain ⟨a,rfl⟩:=hcap
     obtain ⟨r,w',G',h1,h2,h3,h4⟩:=hr.appendNew (xs:=xs) (a:=a) ty ha o1 o2 o3 hx hsrc hsz hn hb
     exact ⟨r,w',G',_,_,h1,h2,h3,h4,hk⟩
    ·cases h
   ·rename_i o ver
    split at h
    ·rename_i e' sz xs ver' ho
     split at h
     ·rename_i hc
      obtain ⟨rfl,rfl,rfl,hsz⟩:=hc
      cases h
      obtain ⟨hb,hk⟩:=hq
      obtain ⟨r,w',G',h1,h2,h3,h4⟩:=hr.appendArr ty ha ho hs hx hsrc hsz hb
      exact ⟨r,w',G',_,_,h1,h2,h3,h4,hk⟩
     ·cases h
    ·cases h
   ·rename_i o ver sz0 lo hi
    split at h
    ·rename_i e' sz xs ver' ho
     split at h
     ·rename_i sz2 zs hsrc2
      split at h
      ·rename_i hc
       obtain ⟨rfl,rfl,rfl,rfl,rfl,hsz⟩:=hc
       cases h
       obtain ⟨hb,hk⟩:=hq
       have hlt:o<σ.length:=(List.getElem?_eq_some_iff.1 ho).1
       obtain ⟨G1,g1,g2,g3⟩:=hr.cutArr ho hs
       obtain ⟨r,w',G',h1,h2,h3,h4⟩:=g2.appendArr ty ha (List.getElem?_set_self hlt) g3 (hx.mono g1) hsrc2 hsz hb
       exact ⟨r,w',G',_,_,h1,g1.trans h2,by rw [List.set_set] at h3;exact h3,h4,hk⟩
      ·cases h
     ·cases h
    ·cases h
   ·cases h
  ·cases h
theorem storeE_sound (hr:Rel cx G σ w) {t:TypeId} {a x:AV} {va vx:Value} {k:AV→List AObj→Prop} {q:Prop} (ha:R G a va) (hx:R G x vx) (h:storeE P σ t a x k=some q) (hq:q):
    ∃ w' G' σ',(Instr.storeAt t va vx).run P w= .ok () w'∧G.le G'∧Rel cx G' σ' w'∧k (.lit undef) σ':=by
  unfold storeE at h
  split at h
  ·rename_i o off
   split at h
   ·rename_i t' cs ho
    split at h
    ·rename_i hc
     obtain ⟨h1,h2,h3,h4⟩:=hc
     cases h
     obtain ⟨w',k1,k2⟩:=hr.storeBox ho ha hx h1 h2 h3 h4
     exact ⟨w',G,_,k1,Gh.le.refl G,k2,hq⟩
    ·cases h
   ·cases h
  ·rename_i o ver sz i j
   obtain ⟨G1,hG1,hr1⟩:=hr.freezeL (ids1 x)
   split at h
   ·rename_i e sz' xs ver' y ho hy
    split at h
    ·rename_i hc
     obtain ⟨rfl,rfl,rfl,h3,h4,h5,h6⟩:=hc
     cases h
     obtain ⟨hi,hk⟩:=hq
     have hrc:RC G1.C y vx:=by simpa using close1_sound (live:=false) hr1 (hx.mono hG1) hy
     obtain ⟨w',k1,k2⟩:=hr1.storeElem (P:=P) (t:=t) ho (ha.mono hG1) hrc h5 h6 h3 h4 hi
     exact ⟨w',G1,_,k1,hG1,k2,hk⟩
    ·split at h
     ·rename_i hc
      obtain ⟨rfl,rfl,h3,h4,h5,h6⟩:=hc
      split at h
      ·rename_i cs hxe
       cases h
       obtain ⟨hi,hk⟩:=hq
       have hrc:RC G1.C y vx:=by simpa using close1_sound (live:=false) hr1 (hx.mono hG1) hy
       obtain ⟨w',k1,k2⟩:=hr1.storePart (P:=P) (t:=t) ho (ha.mono hG1) hrc h5 h6 h3 h4 hi hxe
       exact ⟨w',G1,_,k1,hG1,k2,hk⟩
      ·cases h
     ·cases h
   ·cases h
  ·cases h
theorem RowOk.front {C:Nat→Nat→Option Value} {sz:Nat} {xs ys:List AV} {cur:Array Value} (h:RowOk C sz (xs++ys) cur):RowOk C sz xs cur:=
  ⟨fun x hx=>h.wid x (List.mem_append_left _ hx),Nat.le_trans (Nat.mul_le_mul_right _ (by simp)) h.le,fun i j hi hj=>by
    have:=h.rel i j (by simp;omega) hj
    rwa [getD_app_left _ _ _ hi] at this⟩
theorem zOk_spec {e:TypeId} (h:zOk P e=true):∃ z,zeroT P e=some z∧z.cells.size=szT P e:=by
  unfold zOk at h
  split at h
  ·rename_i z hz;exact ⟨z,hz,by simpa using h⟩
  ·cases h
theorem makeE_sound (hE:EnvOk P E) (hr:Rel cx G σ w) {t:TypeId} {l c:AV} {vl vc:Value} {k:AV→List AObj→Prop} {q:Prop} (hl:R G l vl) (hc:R G c vc) (h:makeE P E σ t l c k=some q) (hq:q):
    ∃ r w' G' σ' y,(Instr.makeSlice t vl vc).run P w= .ok r w'∧G.le G'∧Rel cx G' σ' w'∧R G' y r∧k y σ':=by
  unfold makeE at h
  split at h
  ·rename_i kl l' kc c' e hu
   split at h
   ·rename_i hcond
    obtain ⟨hs,hw,hsz,hby,hz⟩:=hcond
    obtain ⟨z,hz,hzs⟩:=zOk_spec hz
    cases h
    obtain ⟨⟨h0,h1,h2⟩,hk⟩:=hq
    rw [hl.lit_inv,hc.lit_inv]
    obtain ⟨i,hi,hi1,hi2,hi3⟩:∃ i,P.info? e=some i∧i.size=szT P e∧i.bytes=byT P e∧i.zero=some z:=by
      cases hi:P.info? e with
      |none=>simp [szT,hi] at hsz
      |some i=>exact ⟨i,rfl,by simp [szT,hi],by simp [byT,hi],by simpa [zeroT,hi] using hz⟩
    have hc0:0≤c':=by omega
    have hcb:c'≤140737488355328:=by
      have:c'*1≤c'*(byT P e:Int):=Int.mul_le_mul_of_nonneg_left (by omega) hc0
      omega
    have ewl:IntKind.i64.wrap l'=l':=IntWalk.i64_in _ (by omega)
    have ewc:IntKind.i64.wrap c'=c':=IntWalk.i64_in _ (by omega)
    have hrow:RowOk G.C (szT P e) (List.replicate l'.toNat (E.zero e)) ((Array.range (c'.toNat*szT P e)).map (z.cells[·% z.cells.size]!)):=by
      have hfull:=zeroRow (C:=G.C) (n:=c'.toNat) hE hz hs hw
      have e1:List.replicate c'.toNat (E.zero e)=List.replicate l'.toNat (E.zero e)++List.replicate (c'.toNat - l'.toNat) (E.zero e):=by
        rw [List.replicate_append_replicate];congr 1;omega
      rw [e1] at hfull
      exact hfull.front
    have hzv:∀ w':World,(zeroValue e).run P w'= .ok z w':=fun w'=>by simp [zeroValue,typeInfo,hi,hi3]
    have hrun:(Instr.makeSlice t (.int kl l') (.int kc c')).run P w= .ok (.slice (some ⟨w.heap.size,0,none⟩) l'.toNat c'.toNat)
      {w with heap:=w.heap.push (.cells ((Array.range (c'.toNat*szT P e)).map (z.cells[·% z.cells.size]!)) e (0,0))}:=by
      have hbig: ¬ ((byT P e:Int)*c'>2 ^ 48):=by rw [Int.mul_comm];omega
      have htl:(decide (c'<0)||decide ((byT P e:Int)*c'>2 ^ 48)||decide (l'<0)||decide (l'>c'))=false:=by
        simp only [Bool.or_eq_false_iff,decide_eq_false_iff_not]
        exact ⟨⟨⟨by omega,hbig⟩,by omega⟩,by omega⟩
      have hinfo:∀ w':World,(typeInfo e).run P w'= .ok i w':=fun w'=>by simp [typeInfo,hi]
      unfold Instr.makeSlice
      simp only [Sem.run_bind,run_und hu,Result.andThen_ok,asInt,asIntOf,Sem.run_pure,hinfo,ewl,ewc,hi2]
      rw [htl]
      simp only [Bool.false_eq_true,if_false,Sem.run_bind,run_askRoom,Result.andThen_ok,szT_info (Nat.ne_of_gt hsz)]
      by_cases hn0:c'.toNat*szT P e=0
      ·rw [if_pos hn0]
       simp only [Sem.run_bind,Sem.run_pure,Result.andThen_ok]
       rw [hn0]
       have er:∀ f:Nat→Value,(Array.range 0).map f= #[]:=fun f=>by simp
       simp [newRow,er]
      ·rw [if_neg hn0]
       simp only [Sem.run_bind,hzv,Sem.run_pure,Result.andThen_ok]
       simp [newRow]
    have hlen:(List.replicate l'.toNat (E.zero e)).length=l'.toNat:=by simp
    by_cases hc1:c'.toNat=0
    ·have hl1:l'.toNat=0:=by omega
     obtain ⟨G',k1,k2,k3⟩:=(hr.more (More.push w (.cells ((Array.range (c'.toNat*szT P e)).map (z.cells[·% z.cells.size]!)) e (0,0)))).newEmpty e (szT P e) (some ⟨w.heap.size,0,none⟩)
     rw [hl1] at hk hrun
     rw [hc1] at hrun
     rw [hc1] at k2
     exact ⟨_,_,G',_,_,hrun,k1,k2,k3,hk⟩
    ·obtain ⟨G',k1,k2,k3⟩:=hr.newArr e (szT P e) (cap:=c'.toNat) (fz:=(0,0)) hrow (by omega) (by rw [hlen];omega) (by simp only [maxLen];omega) (by simp) (by simp)
     rw [hlen] at k3
     exact ⟨_,_,G',_,_,hrun,k1,k2,k3,hk⟩
   ·cases h
  ·cases h
theorem push_modify {α:Type} (a:Array α) (x:α) (f:α→α):(a.push x).modify a.size f=a.push (f x):=by
  apply Array.ext_getElem?
  intro i
  rw [Array.getElem?_modify]
  by_cases e:a.size=i
  ·subst e;simp
  ·rw [if_neg e,Array.getElem?_push,Array.getElem?_push,if_neg (Ne.symm e),if_neg (Ne.symm e)]
def bcells (b:ByteArray):Array Value:=b.data.map fun c=>Value.int .u8 c.toNat
theorem bcells_size (b:ByteArray):(bcells b).size=b.size:=by simp [bcells]
theorem set_sameO {σ:List AObj} {o:Nat} {ob:AObj} (ho:σ[o]? =some ob):σ.set o ob=σ:=by
  apply List.ext_getElem?
  intro i
  by_cases e:i=o
  ·subst e;rw [List.getElem?_set_self (List.getElem?_eq_some_iff.1 ho).1,ho]
  ·rw [List.getElem?_set_ne (by omega)]
theorem freeze_touch (w:World) (a:Addr) (n:Nat):Touch w (w.freeze a n) a.block:=by
  unfold World.freeze
  split
  ·exact Touch.refl w _
  ·exact ⟨rfl,rfl,rfl,by simp,fun k hk=>by simp only [Array.getElem?_modify];rw [if_neg (fun e=>hk e.symm)]⟩
theorem freeze_blk {w:World} {g:Nat} {cur:Array Value} {e:TypeId} (h:Blk w g cur e):Blk (w.freeze {block:=g,off:=cur.size} 1) g cur e:=by
  obtain ⟨⟨lo,hi⟩,h1,h0,h2⟩:=h
  simp only at h0 h2
  unfold World.freeze
  rw [if_neg (by decide)]
  refine ⟨if lo==hi then (cur.size,cur.size+1) else (min lo cur.size,max hi (cur.size+1)),by simp [Array.getElem?_modify,h1],?_⟩
  by_cases e:lo=hi
  ·subst e
   rw [if_pos (by simp)]
   exact ⟨by simp,fun off ho hh=>by simp only at hh;omega⟩
  ·rw [if_neg (by simpa using e)]
   have h3:cur.size≤lo:=by
     rcases Nat.lt_or_ge lo cur.size with hl|hl
     ·have:=h2 lo hl;omega
     ·exact hl
   refine ⟨?_,fun off ho hh=>?_⟩
   ·simp only;rw [Nat.min_eq_right h3];exact Nat.le_trans (Nat.le_succ _) (Nat.le_max_right _ _)
   ·simp only at hh;rw [Nat.min_eq_right h3] at hh;omega
theorem mark_sound (hr:Rel cx G σ w) {s e e':TypeId} {o ver sz:Nat} {xs:List AV} {v:Value} (hs:P.underlying s=some (.slice e)) (he:P.underlying e=some (.int .u8)) (ho:σ[o]? =some (.arr e' sz xs ver false))
    (hne:xs≠[]) (hx:R G (.arr o ver) v):∃ w',(convert s s v).run P w= .ok v w'∧Rel cx G σ w':=by
  have hok:=hr.ok o _ ho
  have hv:v=G.b o:=by
    cases hx with
    |clo _ _ h=>cases h
    |arr _ _ _ _ _ h _=>exact h hok.1.symm
  have h3:=hok.2.2
  simp only [Bool.false_eq_true,if_false] at h3
  rcases h3 with ⟨rfl,_⟩|⟨g,cap,cur,hk⟩
  ·exact absurd rfl hne
  ·have hb:=hk.v
   obtain ⟨fz,hblk,hfz⟩:=hk.blk
   have hpos:=hk.pos
   have hsh:w.shape? g=some (e',cur.size):=by simp [World.shape?,hblk]
   refine ⟨w.freeze {block:=g,off:=cur.size} 1,?_,?_⟩
   ·rw [hv,hb]
    simp [convert,run_und hs,run_und he,markStringish,hsh]
   ·have:=hr.touch (g:=g) (ob':= .arr e' sz xs ver false) ho rfl (by rw [hb];simp [ownB];omega) (freeze_touch w {block:=g,off:=cur.size} 1) (by
      refine ⟨hok.1,hok.2.1,?_⟩
      simp only [Bool.false_eq_true,if_false]
      exact .inr ⟨g,cap,cur,hb,hk.pos,freeze_blk hk.blk,hk.le,hk.max,hk.size,hk.wid,hk.one,hk.rel,hk.unc⟩)
    rwa [set_sameO ho] at this
theorem bytesE_sound (hr:Rel cx G σ w) {s d:TypeId} {x:AV} {vx:Value} {k:AV→List AObj→Prop} {q:Prop} (hx:R G x vx) (h:bytesE P σ s d x k=some q) (hq:q):
    ∃ r w' G' σ' y,(convert s d vx).run P w= .ok r w'∧G.le G'∧Rel cx G' σ' w'∧R G' y r∧k y σ':=by
  unfold bytesE at h
  split at h
  ·rename_i e b hs hd
   split at h
   ·rename_i he
    split at h
    ·rename_i hsz
     cases h
     obtain ⟨hb,hk⟩:=hq
     rw [hx.lit_inv]
     have hcapge:=grownCap_ge w b.size 0 e
     have hcapm:grownCap w b.size 0 e≤maxLen:=grownCap_le_maxLen w _ _ _ (by simp only [maxLen];omega)
     have hlen:(u8s b).length=b.size:=by simp [u8s]
     have hw1:∀ y∈u8s b,y.cells.length=1:=by intro y hy;simp [u8s] at hy;obtain ⟨b,_,rfl⟩:=hy;rfl
     have hflat:flat (u8s b)=u8s b:=flat_lits _ _
     have hcs:(bcells b++Array.replicate (grownCap w b.size 0 e - b.size) (Value.int IntKind.u8 0)).size=grownCap w b.size 0 e:=by
       simp [bcells_size];omega
     have hrow:RowOk G.C 1 (u8s b) (bcells b++Array.replicate (grownCap w b.size 0 e - b.size) (Value.int IntKind.u8 0)):=by
       refine RowOk.of_flat hw1 (by rw [hcs,hlen];omega) (fun j hj=>?_)
       rw [hflat] at hj ⊢
       rw [hlen] at hj
       have hj':j<b.data.size:=hj
       have e1:(u8s b).getD j .top= .lit (.int .u8 (b.data[j].toNat:Int)):=by
         have:j<(u8s b).length:=by rw [hlen];exact hj
         rw [getD_elem _ _ this]
         simp [u8s]
       have e2:(bcells b++Array.replicate (grownCap w b.size 0 e - b.size) (Value.int IntKind.u8 0)).getD j undef= .int .u8 (b.data[j].toNat:Int):=by
         rw [Array.getD_eq_getD_getElem?,Array.getElem?_append_left (by rw [bcells_size];exact hj)]
         simp [bcells,Array.getElem?_eq_getElem hj']
       rw [e1,e2]
       exact ⟨.lit _,rfl⟩
     have hrun:(convert s d (.string b)).run P w= .ok (.slice (some ⟨w.heap.size,0,none⟩) b.size (grownCap w b.size 0 e))
       {w.drew with heap:=w.heap.push (.cells (bcells b++Array.replicate (grownCap w b.size 0 e - b.size) (Value.int IntKind.u8 0)) e
        (grownCap w b.size 0 e,grownCap w b.size 0 e+1))}:=by
       have hfr:({w.drew with heap:=w.heap.push (.cells (bcells b++Array.replicate (grownCap w b.size 0 e - b.size) (Value.int IntKind.u8 0)) e (0,0))}:World).freeze ⟨w.heap.size,grownCap w b.size 0 e,none⟩ 1=
         {w.drew with heap:=w.heap.push (.cells (bcells b++Array.replicate (grownCap w b.size 0 e - b.size) (Value.int IntKind.u8 0)) e (grownCap w b.size 0 e,grownCap w b.size 0 e+1))}:=by
         simp only [World.freeze]
         rw [if_neg (by omega),push_modify]
         simp
       simp only [convert,Sem.run_bind,run_und hs,run_und hd,run_und he,Result.andThen_ok,Conv.stringToBytes,run_choose,Question.forced,Bool.false_eq_true,if_false]
       have hdr:({w with drawn:=w.drawn+1}:World)=w.drew:=rfl
       have hsh:∀ cur:Array Value,({heap:=w.heap.push (.cells cur e (0,0)),tape:=w.tape,drawn:=w.drawn+1,os:=w.os,output:=w.output}:World).shape? w.heap.size=some (e,cur.size):=fun cur=>by simp [World.shape?]
       have hbc:(b.data.map fun c=>Value.int .u8 (c.toNat:Int))=bcells b:=rfl
       simp only [newRow,Sem.run_bind,run_newObj,Result.andThen_ok,Sem.run_pure,markStringish,run_shape,hsh,run_freeze,hbc]
       rw [←hfr]
       have hcs':(bcells b++Array.replicate ((Question.appendCap b.size 0 e).cut (w.tape w.drawn (Question.appendCap b.size 0 e)) - b.size) (Value.int IntKind.u8 0)).size=grownCap w b.size 0 e:=hcs
       simp only [hcs']
       rfl
     by_cases hc0:grownCap w b.size 0 e=0
     ·have hb0:b.size=0:=by omega
      have hu0:u8s b=[]:=List.eq_nil_of_length_eq_zero (by rw [hlen,hb0])
      obtain ⟨G',k1,k2,k3⟩:=((hr.more (More.push w (.cells (bcells b++Array.replicate (grownCap w b.size 0 e - b.size) (Value.int IntKind.u8 0)) e
          (grownCap w b.size 0 e,grownCap w b.size 0 e+1)))).more (More.drawn _ (w.drawn+1))).newEmpty e 1 (some ⟨w.heap.size,0,none⟩)
      rw [hu0] at hk
      exact ⟨_,_,G',_,_,hrun,k1,k2,by rw [hc0,hb0];exact k3,hk⟩
     ·obtain ⟨G',k1,k2,k3⟩:=hr.newArr e 1 (cap:=grownCap w b.size 0 e) (fz:=(grownCap w b.size 0 e,grownCap w b.size 0 e+1)) hrow (by omega) (by rw [hlen];exact hcapge) hcapm (by rw [hcs];omega) ⟨by simp,by rw [hcs];intro off h1 h2;simp only at h2;omega⟩
      rw [hlen] at k3
      exact ⟨_,_,G',_,_,hrun,k1,k2.more (More.drawn _ (w.drawn+1)),k3,hk⟩
    ·cases h
   ·cases h
  ·rename_i e0 e o ver hs hd
   split at h
   ·rename_i e' sz xs ver' fz hu ho
    split at h
    ·rename_i hc
     obtain ⟨rfl,rfl,rfl,hne⟩:=hc
     cases h
     obtain ⟨w',h1,h2⟩:=mark_sound hr hd hu ho (by intro e;subst e;simp at hne) hx
     exact ⟨_,w',G,σ,_,h1,Gh.le.refl G,h2,hx,hq⟩
    ·cases h
   ·cases h
  ·cases h
theorem refs_sound:∀ {parts:List (Nat×AV)} {i:Nat} {cur:Array Value} {vs:List (Nat×Value)},refsOk i parts=true→vs.map (·.1)=parts.map (·.1)→
    (∀ j,j<parts.length→R G (parts.map (·.2)|>.getD j .top) (vs.map (·.2)|>.getD j undef))→i+parts.length≤cur.size→
    ∃ cur',Instr.fill (fun i=>some (i*1,1)) cur vs=some cur'∧cur'.size=cur.size∧(∀ j,j<i→cur'.getD j undef=cur.getD j undef)∧
      ∀ j,j<parts.length→R G (parts.map (·.2)|>.getD j .top) (cur'.getD (i+j) undef)∧(cur'.getD (i+j) undef).oneCell'=true
  |[],i,cur,vs,_,hv,_,_=>by
   have:vs=[]:=by simpa using hv
   subst this
   exact ⟨cur,rfl,rfl,fun _ _=>rfl,fun j hj=>absurd hj (Nat.not_lt_zero j)⟩
  |(j0,x)::rest,i,cur,vs,hk,hv,hR,hsz=>by
   cases vs with
   |nil=>simp at hv
   |cons u vs=>
    obtain ⟨i',v⟩:=u
    simp only [List.map_cons,List.cons.injEq] at hv
    obtain ⟨rfl,hv⟩:=hv
    cases x with
    |ref o off=>
     simp only [refsOk,Bool.and_eq_true,decide_eq_true_eq] at hk
     obtain ⟨rfl,hk⟩:=hk
     have hx:R G (.ref o off) v:=by simpa using hR 0 (by simp)
     obtain ⟨_,g,_,e⟩:=id hx.ref_inv
     have hc:v.cells= #[v]:=by rw [e];rfl
     have h1:v.oneCell'=true:=by rw [e];rfl
     simp only [List.length_cons] at hsz
     obtain ⟨cur',e1,e2,e3,e4⟩:=refs_sound (parts:=rest) (i:=i'+1) (cur:=cur.setIfInBounds i' v) (vs:=vs) hk hv (fun j hj=>by simpa using hR (j+1) (by simpa using hj)) (by simp;omega)
     refine ⟨cur',?_,by rw [e2];simp,fun j hj=>?_,fun j hj=>?_⟩
     ·simp only [Instr.fill,hc]
      rw [if_neg (by simp;omega),←e1]
      simp
     ·rw [e3 j (by omega)]
      simp only [Array.getD_eq_getD_getElem?]
      rw [Array.getElem?_setIfInBounds_ne (by omega)]
     ·cases j with
      |zero=>
       rw [Nat.add_zero,e3 i' (by omega)]
       have:(cur.setIfInBounds i' v).getD i' undef=v:=by
         simp only [Array.getD_eq_getD_getElem?]
         rw [Array.getElem?_setIfInBounds_self_of_lt (by omega)];rfl
       rw [this]
       exact ⟨by simpa using hx,h1⟩
      |succ j=>
       have:=e4 j (by simpa using hj)
       rw [show i'+(j+1)=i'+1+j by omega]
       simpa using this
    |_=>simp [refsOk] at hk
theorem buildE_sound (hE:EnvOk P E) (hr:Rel cx G σ w) {b:Bool} {t:TypeId} {len:Nat} {parts:List (Nat×AV)} {vs:List (Nat×Value)} {k:AV→List AObj→Prop} {q:Prop} (hv:vs.map (·.1)=parts.map (·.1))
    (hR:∀ i,i<parts.length→R G (parts.map (·.2)|>.getD i .top) (vs.map (·.2)|>.getD i undef)) (h:buildE P E b σ t len parts k=some q) (hq:q):
    ∃ r w' G' σ' y,(Instr.buildSlice t len vs.toArray).run P w= .ok r w'∧G.le G'∧Rel cx G' σ' w'∧R G' y r∧k y σ':=by
  unfold buildE at h
  split at h
  ·cases h
  ·split at h
   ·split at h
    ·rename_i e p sz xs hu h'
     split at h
     ·rename_i hc0
      cases h
      obtain ⟨hp,hk⟩:=hq
      obtain ⟨hsz,hlen⟩:=hc0
      unfold buildSliceV at h'
      rw [hu] at h'
      simp only at h'
      split at h'
      ·rename_i hc
       obtain ⟨hs,hw,hle,hpos,he,hz⟩:=hc
       obtain ⟨z,hz⟩:=Option.isSome_iff_exists.1 hz
       obtain ⟨de,hde⟩:=Option.isSome_iff_exists.1 he
       simp only [Option.map_eq_some_iff,Prod.mk.injEq] at h'
       obtain ⟨ys,h1,_,h2⟩:=h'
       cases h2
       have hz0:=zeroRow (C:=G.C) (n:=len) hE hz hs hw
       obtain ⟨cur,e1,e2,e3,e4⟩:=buildL_sound (vs:=vs) hr hz0 (by simp) hv hR h1
       simp only [List.length_replicate] at e3
       have hmax:len≤maxLen:=by
         have:len*1≤len*szT P e:=Nat.mul_le_mul_left _ hpos
         simp only [maxLen];omega
       obtain ⟨G',k1,k2,k3⟩:=hr.newArr e (szT P e) (cap:=len) (fz:=(0,0)) e2 hlen (by omega) hmax (by rw [e4];simp) (by simp)
       rw [e3] at k3
       refine ⟨.slice (some ⟨w.heap.size,0,none⟩) len len,_,G',_,_,?_,k1,k2,k3,hk⟩
       obtain ⟨i,hi,hi1,hi2,hi3⟩:=run_info (P:=P) hde
       have hzv:(zeroValue e).run P w= .ok z w:=by simp [zeroValue,typeInfo,hi,hi3,hz]
       have hn0:len*szT P e≠0:=Nat.mul_ne_zero (by omega) (by omega)
       simp only [Instr.buildSlice,Sem.run_bind,run_und hu,Result.andThen_ok,run_size hde]
       rw [if_neg (by omega),if_neg hn0]
       simp only [Sem.run_bind,Sem.run_pure,Result.andThen_ok,hzv]
       rw [e1]
       simp [newRow]
      ·cases h'
     ·cases h
    ·rename_i e hu h'
     split at h
     ·rename_i hc
      cases h
      obtain ⟨hk,hlen,hsz,hpos,hle,he,hz⟩:=hc
      obtain ⟨z,hz⟩:=Option.isSome_iff_exists.1 hz
      obtain ⟨de,hde⟩:=Option.isSome_iff_exists.1 he
      obtain ⟨i,hi,hi1,hi2,hi3⟩:=run_info (P:=P) hde
      have hzv:(zeroValue e).run P w= .ok z w:=by simp [zeroValue,typeInfo,hi,hi3,hz]
      obtain ⟨cur,e1,e2,_,e4⟩:=refs_sound (G:=G) (i:=0) (cur:=(Array.range (len*1)).map (z.cells[·% z.cells.size]!)) hk hv hR (by simp [hlen])
      simp only [Array.size_map,Array.size_range,Nat.mul_one] at e2
      obtain ⟨G',k1,k2,k3⟩:=hr.newBox e (cs:=parts.map (·.2)) (cur:=cur) ⟨by simp [e2,hlen],fun i hi=>by simpa using e4 i (by simpa using hi)⟩
      obtain ⟨ho,g,hb,hg⟩:=k3.ref_inv
      simp only [Value.pointer.injEq,Option.some.injEq,Addr.mk.injEq,and_true] at hg
      subst hg
      refine ⟨.slice (some ⟨w.heap.size,0,none⟩) len len,_,G',_,_,?_,k1,k2,.bsl _ _ _ len ho hb (Nat.le_refl _) (by unfold maxLen;omega),hq⟩
      simp only [Instr.buildSlice,Sem.run_bind,run_und hu,Result.andThen_ok,run_size hde,hsz]
      rw [if_neg (by omega)]
      rw [if_neg (show ¬ len*1=0 by omega)]
      simp only [Sem.run_bind,Sem.run_pure,Result.andThen_ok,hzv]
      rw [e1]
      simp [newRow]
     ·cases h
    ·cases h
   ·cases h
theorem isNilS_sound {x:AV} {v:Value} (hx:R G x v) (h:isNilS x=true):v= .slice none 0 0:=by
  unfold isNilS at h
  split at h
  ·exact hx.lit_inv
  ·cases h
theorem snilE_sound (hr:Rel cx G σ w) {op:BinOp} {t:TypeId} {x y:AV} {vx vy:Value} {k:AV→List AObj→Prop} {q:Prop} (hx:R G x vx) (hy:R G y vy) (h:snilE P σ op t x y k=some q) (hq:q) (ox oy:Operand):
    ∃ r w' G' σ' z,(do eqGuard op t ox oy vx vy;binOp op t vx vy:Sem Value).run P w= .ok r w'∧G.le G'∧Rel cx G' σ' w'∧R G' z r∧k z σ':=by
  unfold snilE at h
  split at h
  ·rename_i hny
   rw [isNilS_sound hy hny]
   have run:∀ (a:Option Addr) (n c:Nat) (e:TypeId),P.underlying t=some (.slice e)→
     ((do eqGuard .eql t ox oy (.slice a n c) (.slice none 0 0);binOp .eql t (.slice a n c) (.slice none 0 0):Sem Value).run P w= .ok (.bool a.isNone) w)∧
     ((do eqGuard .neq t ox oy (.slice a n c) (.slice none 0 0);binOp .neq t (.slice a n c) (.slice none 0 0):Sem Value).run P w= .ok (.bool (!a.isNone)) w):=by
     intro a n c e ht
     have h1:binOp .eql t (.slice a n c) (.slice none 0 0)=(do pure (.bool (←Op.equal t (.slice a n c) (.slice none 0 0)))):=rfl
     have h2:binOp .neq t (.slice a n c) (.slice none 0 0)=(do pure (.bool (!(←Op.equal t (.slice a n c) (.slice none 0 0))))):=rfl
     have h3:(Op.equal t (.slice a n c) (.slice none 0 0)).run P w= .ok a.isNone w:=by
       rw [equal_step,Op.equalIn]
       cases a<;>simp [run_und ht]
     constructor
     ·simp [eqGuard_run (P:=P) (w:=w) (a:=Value.slice a n c) rfl,h1,h3]
     ·simp [eqGuard_run (P:=P) (w:=w) (a:=Value.slice a n c) rfl,h2,h3]
   split at h
   ·rename_i e _ xs ht hs
    have hv:∃ a n c,vx= .slice a n c∧(a=none→xs=[]):=by
      obtain ⟨full,hrc⟩:=slOf_all hr hx hs
      cases hrc with
      |nil _ _ a=>exact ⟨a,0,0,rfl,fun _=>rfl⟩
      |sl _ _ _ b off cap f=>exact ⟨_,_,_,rfl,fun e=>by cases e⟩
    obtain ⟨a,n,c,rfl,ha⟩:=hv
    split at h
    ·cases h
     refine ⟨_,w,G,σ,_,(run a n c e ht).1,Gh.le.refl G,hr,R.lit _,?_⟩
     cases a with
     |none=>exact hq.1 (ha rfl)
     |some a=>exact hq.2
    ·cases h
     refine ⟨_,w,G,σ,_,(run a n c e ht).2,Gh.le.refl G,hr,R.lit _,?_⟩
     cases a with
     |none=>exact hq.1 (ha rfl)
     |some a=>exact hq.2
    ·cases h
   ·rename_i e ht hs
    split at h
    ·rename_i hnx
     rw [isNilS_sound hx hnx]
     split at h
     ·cases h;exact ⟨_,w,G,σ,_,(run none 0 0 e ht).1,Gh.le.refl G,hr,R.lit _,hq⟩
     ·cases h;exact ⟨_,w,G,σ,_,(run none 0 0 e ht).2,Gh.le.refl G,hr,R.lit _,hq⟩
     ·cases h
    ·cases h
   ·cases h
  ·cases h
theorem callE_sound (hE:EnvOk P E) (hpx:cx.px=E.px) (hr:Rel cx G σ w) {f:AV} {vf:Value} {args:List AV} {vs:List Value} {k:AV→List AObj→Prop} {q:Prop} (hf:R G f vf) (hl:RLG G args vs)
    (h:callE E σ f args k=some q) (hq:q) (c:Call) (ty:TypeId) (ρ:Operand→Value) (fo:Operand) (hc:c.callee= .value fo) (hρ:ρ fo=vf) (hv:(c.args.map ρ).toList=vs):
    Yield P cx G k ((do let d←resolve ρ c ty;invoke d.target d.args:Sem Next).run P w):=by
  unfold callE at h
  split at h
  ·rename_i g as ht
   have hec:∀ q',E.ec g as σ k=q'→q'→Yield P cx G k ((do let d←resolve ρ c ty;invoke d.target d.args:Sem Next).run P w):=by
     intro q' e hq'
     rw [←e] at hq'
     obtain ⟨hok,hEC⟩:=hE.ec g as σ k hq'
     obtain ⟨vs',hl',hrun⟩:=call_yield (P:=P) (w:=w) hf hl ht hok
     rw [hrun c ty ρ fo hc hρ hv]
     exact hEC cx G w vs' hpx hr hl'
   split at h
   ·rename_i as' hcl
    split at h
    ·rename_i p r hpc
     split at h
     ·rename_i hs
      cases h
      have hcv:callV E σ f args=some (p,r):=by simp [callV,ht,hcl,hpc,hs]
      exact (callV_sound hE hr hf hl hcv hq.1 c ty ρ fo hc hρ hv).mono (fun x σ' ⟨e1,e2⟩=>by rw [e1,e2];exact hq.2)
     ·obtain ⟨G1,hG1,hr1⟩:=hr.freezeL (as.flatMap ids1)
      split at h
      ·rename_i as'' hcl'
       split at h
       ·rename_i p' r' hpc'
        cases h
        have hcv:callV E (freezeL σ (as.flatMap ids1)) f args=some (p',r'):=by simp [callV,ht,closeL1_mono hcl',hpc',hcl']
        exact ((callV_sound hE hr1 (hf.mono hG1) ⟨hl.1,fun i hi=>(hl.2 i hi).mono hG1⟩ hcv hq.1 c ty ρ fo hc hρ hv).mono (fun x σ' ⟨e1,e2⟩=>by rw [e1,e2];exact hq.2)).le hG1
       ·cases h
      ·cases h
    ·simp only [Option.some.injEq] at h;exact hec q h hq
   ·simp only [Option.some.injEq] at h;exact hec q h hq
  ·cases h
theorem Yield.of_val {k:AV→List AObj→Prop} {s:Sem Value} (h:∃ r w' G' σ' y,s.run P w= .ok r w'∧G.le G'∧Rel cx G' σ' w'∧R G' y r∧k y σ'):
    Yield P cx G k ((do pure (.value (←s)):Sem Next).run P w):=by
  obtain ⟨r,w',G',σ',y,h1,h2,h3,h4,h5⟩:=h
  simp only [Sem.run_bind,h1,Result.andThen_ok,Sem.run_pure]
  exact ⟨G',σ',y,h2,h3,h4,h5⟩
theorem putA_sound {C:Nat→Nat→Option Value} {d:TypeDesc} {k v:Value} {x:AV}:∀ {es es':List (Value×AV)} {l:List MapEntry} (i:Nat),l.map (fun e:MapEntry=>e.key)=es.map (fun x=>x.1)→
    (∀ i,i<es.length→RC C ((es.map (fun x=>x.2)).getD i .top) ((l.map (fun e:MapEntry=>e.val)).getD i undef))→RC C x v→putA d k x es=some es'→
    (Instr.findNow d k l i=some none∧es'=es++[(k,x)])∨∃ j u m,Instr.findNow d k l i=some (some (i+j,u))∧l[j]? =some m∧Instr.sameNow d k m.key=some true∧
      es'.length=es.length∧(l.modify j fun e=>{e with key:=k,val:=v}).map (fun e:MapEntry=>e.key)=es'.map (fun x=>x.1)∧
      ∀ i,i<es'.length→RC C ((es'.map (fun x=>x.2)).getD i .top) (((l.modify j fun e=>{e with key:=k,val:=v}).map (fun e:MapEntry=>e.val)).getD i undef)
  |[],es',l,i,hk,hv,hx,h=>by
   cases h
   have:l=[]:=by simpa using hk
   subst this
   exact .inl ⟨rfl,rfl⟩
  |e::es,es',l,i,hk,hv,hx,h=>by
   cases l with
   |nil=>simp at hk
   |cons m l=>
    simp only [List.map_cons,List.cons.injEq] at hk
    simp only [putA] at h
    simp only [Instr.findNow,hk.1]
    split at h
    ·rename_i hs
     rw [sameA_sound hs]
     cases h
     refine .inr ⟨0,m.val,m,rfl,rfl,by rw [hk.1];exact sameA_sound hs,rfl,by simp [hk.2],fun i hi=>?_⟩
     cases i with
     |zero=>simpa using hx
     |succ i=>simpa using hv (i+1) (by simpa using hi)
    ·rename_i hs
     rw [sameA_sound hs]
     simp only [Option.map_eq_some_iff] at h
     obtain ⟨es2,h,rfl⟩:=h
     rcases putA_sound (i+1) hk.2 (fun i hi=>by simpa using hv (i+1) (by simpa using hi)) hx h with ⟨h1,rfl⟩|⟨j,u,m',h1,h2,h3,h4,h5,h6⟩
     ·exact .inl ⟨h1,rfl⟩
     ·refine .inr ⟨j+1,u,m',?_,by simpa using h2,h3,by simp [h4],by simp [h5,hk.1],fun i hi=>?_⟩
      ·simp only;rw [h1];congr 3;omega
      ·cases i with
       |zero=>simpa using hv 0 (by simp)
       |succ i=>simpa using h6 i (by simpa using hi)
    ·cases h
theorem same_bits {d:TypeDesc} {a b:Value} {n:Nat} (h:Instr.sameNow d a b=some true):Instr.sameBits n b a=true:=by
  unfold Instr.sameNow at h
  split at h
  ·split at h
   ·rename_i hk
    subst hk
    simp at h
    subst h
    cases n<;>simp [Instr.sameBits]
   ·cases h
  ·rename_i a b
   have h:(a==b)=true:=by simpa using h
   have e:a.toList=b.toList:=by simpa [beq_toListBytes] using h
   have h':(b==a)=true:=by rw [beq_toListBytes,e];simp
   cases n<;>simp [Instr.sameBits,h']
  ·simp at h;subst h;cases n<;>simp [Instr.sameBits]
  ·cases h
theorem mapE_sound (hr:Rel cx G σ w) {t:TypeId} {m key x:AV} {vm vk vx:Value} {k:AV→List AObj→Prop} {q:Prop} (hm:R G m vm) (hkv:R G key vk) (hx:R G x vx) (h:mapE P σ t m key x k=some q) (hq:q):
    ∃ w' G' σ',(Instr.mapUpdate t vm vk vx).run P w= .ok () w'∧G.le G'∧Rel cx G' σ' w'∧k (.lit undef) σ':=by
  unfold mapE at h
  split at h
  ·rename_i kt et o kv ht
   have hk:=hkv.lit_inv
   subst hk
   obtain ⟨G1,hG1,hr1⟩:=hr.freezeL (ids1 x)
   split at h
   ·rename_i es y d ho hy hd
    split at h
    ·rename_i hc
     split at h
     ·rename_i es' hput
      cases h
      have hrc:RC G1.C y vx:=by simpa using close1_sound (live:=false) hr1 (hx.mono hG1) hy
      obtain ⟨g,ents,clock,hg,rfl,hok⟩:=map_of hr1 (hm.mono hG1) ho
      have hlt:=(Array.getElem?_eq_some_iff.1 hok.heap).1
      have hget:∀ o',(setObj g o').run P w= .ok () {w with heap:=w.heap.setIfInBounds g o'}:=fun o'=>by simp [setObj,Sem.run,hok.heap]
      have hgo:(getObj g).run P w= .ok (.map ents clock) w:=by simp [getObj,Sem.run,hok.heap]
      have hck:(Instr.checkKey false 10000 kt vk).run P w= .ok () w:=key_ok hd hc
      have htouch:∀ o',Touch w {w with heap:=w.heap.setIfInBounds g o'} g:=fun o'=>⟨rfl,rfl,rfl,by simp,fun i hi=>by simp only [Array.getElem?_setIfInBounds];rw [if_neg (Ne.symm hi)]⟩
      have fin:∀ (ents':Array MapEntry) (clock':Nat),(Instr.mapUpdate t (.map (some g)) vk vx).run P w= .ok () {w with heap:=w.heap.setIfInBounds g (.map ents' clock')}→ents'.size=es'.length→
        ents'.toList.map (fun e:MapEntry=>e.key)=es'.map (fun x=>x.1)→(∀ i,i<es'.length→RC G1.C ((es'.map (fun x=>x.2)).getD i .top) ((ents'.toList.map (fun e:MapEntry=>e.val)).getD i undef))→
        ∃ w' G' σ',(Instr.mapUpdate t (.map (some g)) vk vx).run P w= .ok () w'∧G.le G'∧Rel cx G' σ' w'∧k (.lit undef) σ':=by
        intro ents' clock' hrun h1 h2 h3
        refine ⟨_,G1,_,hrun,hG1,hr1.touch (g:=g) (ob':= .map es') ho rfl (by rw [hg];rfl) (htouch _) ⟨g,ents',clock',hg,?_,h1,h2,h3,hok.unc⟩,hq⟩
        simp [hlt]
      rcases putA_sound 0 hok.key hok.val hrc hput with ⟨h1,rfl⟩|⟨j,u,m',h1,h2,h3,h4,h5,h6⟩
      ·refine fin (ents.push {key:=vk,val:=vx,born:=clock}) (clock+1) ?_ (by simp [hok.size]) (by simp [hok.key]) (fun i hi=>?_)
       ·simp [Instr.mapUpdate,run_und ht,hgo,hck,Instr.findKey,run_und hd,h1,hget]
       ·have hsz:ents.toList.length=es.length:=by simpa using hok.size
        by_cases e:i<es.length
        ·have:=hok.val i e
         simp only [Array.toList_push,List.map_append,List.map_cons,List.map_nil]
         rw [getD_app_left _ _ _ (by simpa using e),getD_app_left _ _ _ (by simpa [hsz] using e)]
         exact this
        ·have e2:i=es.length:=by simp at hi;omega
         subst e2
         simp only [Array.toList_push,List.map_append,List.map_cons,List.map_nil]
         rw [getD_app_right _ _ _ (by simp),getD_app_right _ _ _ (by simp [hok.size])]
         simpa [hok.size] using hrc
      ·have hj:ents[j]? =some m':=by simpa using h2
       refine fin (ents.modify j fun e=>{e with key:=vk,val:=vx}) clock ?_ (by simp [hok.size,h4]) (by simpa [Array.toList_modify] using h5) (fun i hi=>by simpa [Array.toList_modify] using h6 i hi)
       simp only [Nat.zero_add] at h1
       simp [Instr.mapUpdate,run_und ht,hgo,hck,Instr.findKey,run_und hd,h1,hget,hj,Instr.keyThatStays,same_bits h3]
     ·cases h
    ·cases h
   ·cases h
  ·cases h
theorem srcN_sound {x:AV} {v:Value} {z:Nat×List AV} (hx:R G x v) (h:srcN σ x=some z):∃ y,R G y v∧slOf σ y=some z:=by
  unfold srcN at h
  split at h
  ·cases h
   rw [hx.lit_inv]
   exact ⟨.sl true 0 [],.clo _ _ (.nil _ _ _),rfl⟩
  ·exact ⟨_,hx,h⟩
theorem dstOf_sound (hr:Rel cx G σ w) {d:AV} {v:Value} {o ver e sz lo hi:Nat} {xs:List AV} (hd:R G d v) (h:dstOf σ d=some (o,ver,e,sz,lo,hi,xs)):σ[o]? =some (.arr e sz xs ver false)∧SubOf (G.b o) sz lo hi v:=by
  unfold dstOf at h
  split at h
  ·split at h
   ·rename_i ho
    split at h
    ·rename_i hv
     subst hv
     cases h
     exact ⟨ho,arr_subOf hr ho hd⟩
    ·cases h
   ·cases h
  ·split at h
   ·rename_i ho
    split at h
    ·rename_i hv
     obtain ⟨rfl,rfl⟩:=hv
     cases h
     exact ⟨ho,hd.sub_inv.2.2 (hr.ok _ _ ho).1.symm⟩
    ·cases h
   ·cases h
  ·cases h
theorem copyT_spec {ats:Array TypeId} {e:TypeId} (h:copyT P ats=some e):∃ t,ats[0]? =some t∧P.underlying t=some (.slice e):=by
  unfold copyT at h
  split at h
  ·rename_i t ht
   split at h
   ·rename_i e' hu;cases h;exact ⟨t,ht,hu⟩
   ·cases h
  ·cases h
theorem copyE_sound (hr:Rel cx G σ w) {ats:Array TypeId} {ty:TypeId} {d s:AV} {vd vs:Value} {k:AV→List AObj→Prop} {q:Prop} (hd:R G d vd) (hs:R G s vs) (h:copyE P σ ats d s k=some q) (hq:q):
    ∃ r w' G' σ' y,(Builtin.copy_ ats ty #[vd,vs]).run P w= .ok r w'∧G.le G'∧Rel cx G' σ' w'∧R G' y r∧k y σ':=by
  unfold copyE at h
  split at h
  ·rename_i e sz' ys o ver e' sz lo hi xs he hsrc hdst
   split at h
   ·rename_i hc
    obtain ⟨rfl,rfl,h3,h4⟩:=hc
    cases h
    obtain ⟨t,t1,t2⟩:=copyT_spec he
    obtain ⟨y,y1,y2⟩:=srcN_sound hs hsrc
    obtain ⟨d1,d2⟩:=dstOf_sound hr hd hdst
    obtain ⟨w',h1,h2⟩:=hr.copySub (P:=P) (ty:=ty) t1 t2 rfl h3 d1 d2 y1 y2 h4
    exact ⟨_,w',G,_,_,h1,Gh.le.refl G,h2,R.lit _,hq⟩
   ·cases h
  ·cases h
theorem aeff_sound (hE:EnvOk P E) (hpx:cx.px=E.px) (hr:Rel cx G σ w) {ev:Operand→AV} {ρ:Operand→Value} (he:∀ x,R G (ev x) (ρ x)) {o:Oper} {k:AV→List AObj→Prop} {q:Prop}
    (h:aeff P E ev σ o k=some q) (hq:q):Yield P cx G k ((execOp ρ o).run P w):=by
  unfold aeff at h
  unfold execOp
  cases ho:o.op with
  |alloc t=>
   rw [ho] at h
   simp only at h ⊢
   split at h
   ·rename_i hc
    obtain ⟨hs,hz⟩:=hc
    obtain ⟨z,hz⟩:=Option.isSome_iff_exists.1 hz
    cases h
    obtain ⟨G',h1,h2,h3⟩:=hr.newBox t (zero_cells hE hz hs)
    have hzv:(zeroValue t).run P w= .ok z w:=by
      unfold zeroT at hz
      cases hi:P.info? t with
      |none=>rw [hi] at hz;cases hz
      |some i=>rw [hi] at hz;have:i.zero=some z:=hz;simp [zeroValue,typeInfo,hi,this]
    refine Yield.of_val ⟨_,_,G',_,_,?_,h1,h2,h3,hq⟩
    simp [Instr.alloc,hzv,newVar,newRow]
   ·cases h
  |box t x=>
   rw [ho] at h
   simp only at h ⊢
   split at h
   ·rename_i hs
    cases h
    obtain ⟨h1,h2⟩:=(he x).cells hs
    obtain ⟨G',k1,k2,k3⟩:=hr.newBox t (cs:=(ev x).cells) (cur:=(ρ x).cells) ⟨h1,h2⟩
    refine Yield.of_val ⟨_,_,G',_,_,?_,k1,k2,k3,hq⟩
    simp [Instr.box,newVar,newRow]
   ·cases h
  |store t a x=>
   rw [ho] at h
   simp only at h ⊢
   obtain ⟨w',G',σ',h1,h2,h3,h4⟩:=storeE_sound (P:=P) hr (he a) (he x) h hq
   simp only [Sem.run_bind,h1,Result.andThen_ok,Sem.run_pure]
   exact ⟨G',σ',_,h2,h3,R.lit _,h4⟩
  |makeSlice t l c=>rw [ho] at h;exact Yield.of_val (makeE_sound hE hr (he l) (he c) h hq)
  |buildSlice t len parts=>
   rw [ho] at h
   simp only at h ⊢
   have:=buildE_sound (P:=P) (w:=w) (G:=G) hE hr (vs:=parts.toList.map fun p=>(p.1,ρ p.2)) (by simp [Function.comp_def]) (fun i hi=>?_) h hq
   ·rw [map_arr parts fun x=>(x.1,ρ x.2)]
    exact Yield.of_val this
   ·have h2:=rlg_map he (parts.toList.map (·.2))
    simp only [List.map_map,Function.comp_def] at h2 ⊢
    exact h2.2 i (by simpa using hi)
  |convert s d x=>rw [ho] at h;exact Yield.of_val (bytesE_sound hr (he x) h hq)
  |binOp op t x y t'=>rw [ho] at h;exact Yield.of_val (snilE_sound hr (he x) (he y) h hq x y)
  |makeMap t r=>
   rw [ho] at h
   simp only at h ⊢
   cases r with
   |some r=>cases h
   |none=>
    cases h
    have hrun:(Instr.makeMap t (none:Option Value)).run P w= .ok (.map (some w.heap.size)) {w with heap:=w.heap.push (.map #[] 0)}:=by simp [Instr.makeMap]
    refine Yield.of_val ⟨_,_,G.push (.map (some w.heap.size)) 0,_,_,hrun,G.le_push _ _,?_,?_,hq⟩
    ·refine (hr.more (More.push w (.map #[] 0))).pushObj _ _ _ ?_ ?_
     ·exact ⟨w.heap.size,#[],0,by simp only [Gh.push];rw [hr.n,updN_same],by simp,rfl,rfl,fun i hi=>absurd hi (Nat.not_lt_zero i),fun j=>hr.no_commit (Nat.le_refl _) j⟩
     ·intro _ g hg
      simp [ownB] at hg
      subst hg
      refine ⟨.inl hr.size,fun o ob' ho hl hg=>?_⟩
      have:=((hr.ok o ob' ho).lt hl hg).1
      omega
    ·rw [←hr.n]
     exact .mp _ _ (by simp [Gh.push]) (by simp only [Gh.push];rw [updN_same])
  |mapUpdate t m key x=>
   rw [ho] at h
   simp only at h ⊢
   obtain ⟨w',G',σ',h1,h2,h3,h4⟩:=mapE_sound (P:=P) hr (he m) (he key) (he x) h hq
   simp only [Sem.run_bind,h1,Result.andThen_ok,Sem.run_pure]
   exact ⟨G',σ',_,h2,h3,R.lit _,h4⟩
  |insert t m key x=>
   rw [ho] at h
   simp only at h ⊢
   obtain ⟨w',G',σ',h1,h2,h3,h4⟩:=mapE_sound (P:=P) hr (he m) (he key) (he x) h hq
   simp only [Sem.run_bind,h1,Result.andThen_ok,Sem.run_pure]
   exact ⟨G',σ',_,h2,h3,R.lit _,h4⟩
  |panic x=>
   rw [ho] at h
   simp only at h ⊢
   unfold panE at h
   split at h
   ·rename_i t v hx
    cases h
    have hv:ρ x= .iface t v:=by have:=he x;rw [hx] at this;exact this.lit_inv
    rw [hv]
    exact ⟨_,G,σ,_,rfl,Gh.le.refl G,hr,R.lit _,by rw [hpx];exact hq⟩
   ·cases h
  |call c=>
   rw [ho] at h
   simp only at h ⊢
   split at h
   ·rename_i b hc
    split at h
    ·rename_i hb
     have hb':b= .append:=by cases b<;>first|rfl|cases hb
     subst hb'
     split at h
     ·rename_i s y hargs
      have e2:c.args.map ρ= #[ρ s,ρ y]:=by rw [map_arr,hargs];rfl
      simp only [resolve,hc,invoke,builtin,Sem.run_bind,Sem.run_pure,Result.andThen_ok,e2]
      obtain ⟨r,w',G',σ',z,h1,h2,h3,h4,h5⟩:=appE_sound (P:=P) hr o.type (he s) (he y) h hq
      rw [h1]
      exact ⟨G',σ',z,h2,h3,h4,h5⟩
     ·cases h
    ·split at h
     ·rename_i hb
      have hb':b= .copy:=by cases b<;>first|rfl|cases hb
      subst hb'
      split at h
      ·rename_i d y hargs
       have e2:c.args.map ρ= #[ρ d,ρ y]:=by rw [map_arr,hargs];rfl
       simp only [resolve,hc,invoke,builtin,Sem.run_bind,Sem.run_pure,Result.andThen_ok,e2]
       obtain ⟨r,w',G',σ',z,h1,h2,h3,h4,h5⟩:=copyE_sound (P:=P) (ty:=o.type) hr (he d) (he y) h hq
       rw [h1]
       exact ⟨G',σ',z,h2,h3,h4,h5⟩
      ·cases h
     ·cases h
   ·rename_i f hc
    exact callE_sound hE hpx hr (he f) (rlg_map he c.args.toList) h hq c o.type ρ f hc rfl (by simp)
   ·cases h
  |_=>rw [ho] at h;cases h
theorem avop_sound (hE:EnvOk P E) (hpx:cx.px=E.px) (hr:Rel cx G σ w) {ev:Operand→AV} {ρ:Operand→Value} (he:∀ x,R G (ev x) (ρ x)) {o:Oper} {k:AV→List AObj→Prop}
    (h:avop P E ev σ o k):Yield P cx G k ((execOp ρ o).run P w):=by
  unfold avop at h
  split at h
  ·rename_i p hp
   exact aeff_sound hE hpx hr he hp h
  ·split at h
   ·rename_i p x hp
    exact (pval_sound hE hr he hp h.1).mono (fun y σ' ⟨e1,e2⟩=>by rw [e1,e2];exact h.2)
   ·exact h.elim
end Go.Fw
