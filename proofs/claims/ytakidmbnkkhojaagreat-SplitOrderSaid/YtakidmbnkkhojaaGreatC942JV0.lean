-- Joined of: V0 V1 V2 V3 V4 V5 V6 V7 V8 V9 V10 V11 V12 V13 V14 V15 V16 V17 V18 V19
import Derived.Calls
import Derived.Below
import Derived.Laws.AppendOwn
import Derived.Laws.MakeOwn
import Derived.Laws.Entries
import Derived.Laws.Cells
import Derived.ChangeKeysEq
import Derived.Laws.Small
import Derived.Laws.Cover1
import Derived.Laws.Tables
import Derived.Great.BuildSlice
import Derived.Great.FillDense
import Derived.Orders
import Derived.Laws.Cover3
section
namespace Go.AVL
open Go.RowKit
set_option linter.unusedVariables false
set_option linter.unusedSimpArgs false
inductive AV where
  | int (k:IntKind) (n:Int)
  | bool (b:Bool)
  | str (s:ByteArray)
  | fi (k:IntKind) (l:List Int)
  | fv (es:List AV)
  | os (s ver off len:Nat) (full:Bool)
  | oc (s ver len room:Nat) (tight:Bool)
  | op (s ver i off:Nat)
  | fp (v:AV) (off:Nat)
  | agg (cs:List AV)
  | tup (vs:List AV)
  | fn (f:FuncId) (caps:List AV)
  | nob (b:Bool)
  | bad
  deriving Inhabited
def AV.cells:AV→List AV
  | .agg cs=>cs
  | v=>[v]
def AV.isBad:AV→Bool
  | .bad | .nob _=>true
  | _=>false
def AV.one:AV→Bool
  | .agg _ | .tup _ | .nob _ | .bad=>false
  | _=>true
inductive Row where
  | ints (k:IntKind) (l:List Int)
  | vals (es:List AV)
  deriving Inhabited
def Row.len:Row→Nat
  | .ints _ l=>l.length
  | .vals es=>es.length
def Row.get:Row→Nat→AV
  | .ints k l,i=>.int k (l.getD i 0)
  | .vals es,i=>es.getD i .bad
inductive Mode where
  | dead|own|win|froz
  deriving DecidableEq,Inhabited
structure Blk where
  ver:Nat
  mode:Mode
  row:Row
  e:TypeId
  deriving Inhabited
structure Reg where
  g:Nat
  base:Nat
  cap:Nat
  sz:Nat
  deriving Inhabited
structure St where
  t:Nat→AV
  b:Nat→Blk
def upd {α:Type} (f:Nat→α) (d:Nat) (v:α):Nat→α:=fun x=>match Nat.beq x d with|true=>v|false=>f x
theorem upd_same {α:Type} (f:Nat→α) (d:Nat) (v:α):upd f d v d=v:=by simp [upd]
theorem upd_ne {α:Type} (f:Nat→α) {d x:Nat} (v:α) (h:x≠d):upd f d v x=f x:=by
  have:Nat.beq x d=false:=by
    cases hb:Nat.beq x d
    · rfl
    · exact absurd (Nat.eq_of_beq_eq_true hb) h
  simp [upd,this]
def St.put (st:St) (d:Nat) (v:AV):St:=⟨upd st.t d v,st.b⟩
def St.putb (st:St) (d:Nat) (k:Blk):St:=⟨st.t,upd st.b d k⟩
def St.puto (st:St) (d:Option Nat) (v:AV):St:=match d with|some d=>st.put d v|none=>st
inductive VR (I:Nat→Prop) (w:World) (B:Nat→Blk) (m:Nat→Reg):AV→Value→Prop
  | int (k:IntKind) (n:Int):VR I w B m (.int k n) (.int k n)
  | bool (b:Bool):VR I w B m (.bool b) (.bool b)
  | str (s:ByteArray):VR I w B m (.str s) (.string s)
  | fi (k:IntKind) (l:List Int) (a:Option Addr) (cap:Nat):l.length≤cap →
      (∀ i,i < l.length→∃ ad:Addr,a=some ad∧ad.spot=none∧I ad.block∧w.cell? ⟨ad.block,ad.off + i,none⟩=some (.int k (l.getD i 0))) →
      VR I w B m (.fi k l) (.slice a l.length cap)
  | fv (es:List AV) (a:Option Addr) (cap sz:Nat) (V:Nat→Value):es.length≤cap→(∀ i,i < es.length→VR I w B m (es.getD i .bad) (V i)) →
      (∀ i,i < es.length→(V i).cells.size=sz∧(∀ u ∈ (V i).cells.toList,u.oneCell'=true)∧∃ ad:Addr,a=some ad∧ad.spot=none∧I ad.block∧∀ j,j < sz→w.cell? ⟨ad.block,ad.off + i * sz + j,none⟩=(V i).cells[j]?) →
      VR I w B m (.fv es) (.slice a es.length cap)
  | os (s ver off len:Nat) (full:Bool) (a:Option Addr) (cap:Nat):ver≤(B s).ver →
      ((B s).ver=ver→(B s).mode≠.dead→off + len≤(B s).row.len∧len≤cap ∧
        (cap=0∨a=some ⟨(m s).g,((m s).base + off) * (m s).sz,none⟩)∧(full=true→off=0∧cap=(m s).cap∧(m s).base=0)) →
      VR I w B m (.os s ver off len full) (.slice a len cap)
  | oc (s ver len room:Nat) (tight:Bool) (a:Option Addr) (cap:Nat):VR I w B m (.os s ver 0 len true) (.slice a len cap)→(if tight=true then cap < room else room≤cap)→VR I w B m (.oc s ver len room tight) (.slice a len cap)
  | op (s ver i off:Nat) (a:Addr):ver≤(B s).ver →
      ((B s).ver=ver→(B s).mode≠.dead→a=⟨(m s).g,((m s).base + i) * (m s).sz + off,none⟩∧i < (B s).row.len) →
      VR I w B m (.op s ver i off) (.pointer (some a))
  | fp (v:AV) (off:Nat) (V:Value) (b o:Nat):VR I w B m v V→I b→(∀ u ∈ V.cells.toList,u.oneCell'=true)→(∀ j,j < V.cells.size→w.cell? ⟨b,o + j,none⟩=V.cells[j]?) →
      VR I w B m (.fp v off) (.pointer (some ⟨b,o + off,none⟩))
  | agg (cs:List AV) (vs:Array Value):cs.length=vs.size→(∀ u ∈ vs.toList,u.oneCell'=true) →
      (∀ i,i < cs.length→VR I w B m (cs.getD i .bad) (vs.getD i undef))→VR I w B m (.agg cs) (.agg vs)
  | nob (b:Bool) (V:Value):V≠.bool b→VR I w B m (.nob b) V
  | tup (cs:List AV) (vs:Array Value):cs.length=vs.size →
      (∀ i,i < cs.length→VR I w B m (cs.getD i .bad) (vs.getD i undef))→VR I w B m (.tup cs) (.tuple vs)
  | fn (f:FuncId) (cs:List AV) (vs:Array Value):cs.length=vs.size →
      (∀ i,i < cs.length→VR I w B m (cs.getD i .bad) (vs.getD i undef))→VR I w B m (.fn f cs) (.func (.func f) #[] vs)
  | bad (V:Value):VR I w B m .bad V
theorem VR.monoLe {I I':Nat→Prop} {w w':World} {B B':Nat→Blk} {m m':Nat→Reg} {v:AV} {V:Value} (h:VR I w B m v V)
    (hI : ∀ k,I k→I' k) (hc : ∀ k o,I k→w'.cell? ⟨k,o,none⟩=w.cell? ⟨k,o,none⟩)
    (hB : ∀ s u,u≤(B s).ver→u≤(B' s).ver∧((B' s).ver=u→(B' s).mode≠.dead→(B s).ver=u∧(B s).mode≠.dead∧(B s).row.len≤(B' s).row.len∧m' s=m s)) :
    VR I' w' B' m' v V:=by
  induction h with
  | int k n=>exact .int k n
  | bool b=>exact .bool b
  | str s=>exact .str s
  | fi k l a cap hl h =>
    refine .fi k l a cap hl fun i hi=>?_
    obtain ⟨ad,e,hs,hi',hcell⟩:=h i hi
    exact ⟨ad,e,hs,hI _ hi',by rw [hc _ _ hi',hcell]⟩
  | fv es a cap sz V hl hv h ih =>
    refine .fv es a cap sz V hl ih fun i hi=>?_
    obtain ⟨hs,h1,ad,e,hsp,hi',hcell⟩:=h i hi
    exact ⟨hs,h1,ad,e,hsp,hI _ hi',fun j hj=>by rw [hc _ _ hi',hcell j hj]⟩
  | os s ver off len full a cap hv h =>
    obtain ⟨h1,h2⟩:=hB s ver hv
    refine .os s ver off len full a cap h1 fun e hm=>?_
    obtain ⟨e1,e2,e3,e4⟩:=h2 e hm
    obtain ⟨q1,q2,q3,q4⟩:=h e1 e2
    rw [e4]
    exact ⟨Nat.le_trans q1 e3,q2,q3,q4⟩
  | oc s ver len room tight a cap _ hr ih=>exact .oc s ver len room tight a cap ih hr
  | op s ver i off a hv h =>
    obtain ⟨h1,h2⟩:=hB s ver hv
    refine .op s ver i off a h1 fun e hm=>?_
    obtain ⟨e1,e2,e3,e4⟩:=h2 e hm
    obtain ⟨q1,q2⟩:=h e1 e2
    rw [e4]
    exact ⟨q1,Nat.lt_of_lt_of_le q2 e3⟩
  | fp v off V b o hv hb h1 hcell ih=>exact .fp v off V b o ih (hI _ hb) h1 fun j hj=>by rw [hc _ _ hb,hcell j hj]
  | agg cs vs hl h1 hv ih=>exact .agg cs vs hl h1 ih
  | tup cs vs hl hv ih=>exact .tup cs vs hl ih
  | fn f cs vs hl hv ih=>exact .fn f cs vs hl ih
  | nob b V h=>exact .nob b V h
  | bad V=>exact .bad V
theorem VR.mono {I I':Nat→Prop} {w w':World} {B B':Nat→Blk} {m m':Nat→Reg} {v:AV} {V:Value} (h:VR I w B m v V)
    (hI : ∀ k,I k→I' k) (hc : ∀ k o,I k→w'.cell? ⟨k,o,none⟩=w.cell? ⟨k,o,none⟩)
    (hB : ∀ s u,u≤(B s).ver→u≤(B' s).ver∧((B' s).ver=u→(B' s).mode≠.dead→(B s).ver=u∧(B s).mode≠.dead∧(B' s).row.len=(B s).row.len∧m' s=m s)) :
    VR I' w' B' m' v V :=
  h.monoLe hI hc fun s u hu=>⟨(hB s u hu).1,fun e1 e2=>let ⟨q1,q2,q3,q4⟩:=(hB s u hu).2 e1 e2;⟨q1,q2,Nat.le_of_eq q3.symm,q4⟩⟩
theorem VR.grow {I I':Nat→Prop} {w w':World} {B:Nat→Blk} {m:Nat→Reg} {v:AV} {V:Value} (h:VR I w B m v V)
    (hI : ∀ k,I k→I' k) (hc : ∀ k,I k→w'.heap[k]?=w.heap[k]?):VR I' w' B m v V :=
  h.mono hI (fun k o hk=>World.cell?_of_block (w:=w) (w':=w') (a:=⟨k,o,none⟩) (hc k hk)) fun s u hu=>⟨hu,fun e hm=>⟨e,hm,rfl,rfl⟩⟩
theorem VR.one {I:Nat→Prop} {w:World} {B:Nat→Blk} {m:Nat→Reg} {v:AV} {V:Value} (h:VR I w B m v V) (h1:v.one=true):V.oneCell'=true∧V.cells = #[V]:=by
  cases h <;> simp [AV.one] at h1 <;> simp [Value.oneCell',Value.cells]
end Go.AVL
end

section
namespace Go.AVL
open Go.RowKit
set_option linter.unusedVariables false
set_option linter.unusedSimpArgs false
def zc (P:Program):Nat→TypeId→List AV
  | 0,_=>[]
  | d + 1,t=>match P.underlying t with
    | some (.int k)=>[.int k 0]
    | some .bool=>[.bool false]
    | some .string=>[.str .empty]
    | some (.slice e)=>match P.underlying e with
      | some (.int k)=>[.fi k []]
      | _=>[.fv []]
    | some (.struct fs)=>fs.toList.flatMap fun f=>zc P d f.type
    | some (.array n e)=>(List.range n).flatMap fun _=>zc P d e
    | _=>[.bad]
def zc0 (P:Program) (e:TypeId):List AV:=zc P 8 e
structure Ctx (P:Program) where
  n:Nat
  w0:World
  A:Nat→Prop
  wg:Option (Nat×Nat×Nat)
def RowR (I:Nat→Prop) (w:World) (B:Nat→Blk) (m:Nat→Reg) (row:Row) (cur:Array Value) (base sz:Nat):Prop :=
  ∀ i,i < row.len→∃ V,VR I w B m (row.get i) V∧V.cells.size=sz∧(∀ u ∈ V.cells.toList,u.oneCell'=true)∧∀ j,j < sz→cur[(base + i) * sz + j]?=V.cells[j]?
def noIL:List AV→Bool
  | []=>true
  | .int _ _ :: _ | .bad :: _ | .nob _ :: _=>false
  | _ :: cs=>noIL cs
def Sp (P:Program) (b:Blk) (r:Reg) (cur:Array Value):Prop :=
  noIL (zc0 P b.e)=true→(∃ es,b.row = .vals es)→∀ i,(i < r.base * r.sz∨(r.base + b.row.len) * r.sz≤i)→∀ k n,cur[i]?≠some (.int k n)
def BM {P:Program} (c:Ctx P) (I:Nat→Prop) (b:Blk) (r:Reg) (cur:Array Value):Prop :=
  match b.mode with
  | .own=>(Sp P b r cur∧r.sz=P.cellsOf b.e)∧cur.size=(r.base + r.cap) * r.sz∧b.row.len≤r.cap∧r.cap≤maxLen∧¬ I r.g∧c.w0.heap.size≤r.g
  | .win=>¬ I r.g∧r.cap=b.row.len∧c.wg=some (r.g,r.base * r.sz,(r.base + b.row.len) * r.sz)∧(r.base + b.row.len) * r.sz≤cur.size
  | .froz=>I r.g
  | .dead=>True
def BR {P:Program} (c:Ctx P) (I:Nat→Prop) (w:World) (B:Nat→Blk) (m:Nat→Reg) (s:Nat):Prop :=
  (B s).mode≠.dead→((m s).cap=0∧(B s).row.len=0) ∨
    ∃ cur,w.heap[(m s).g]?=some (.cells cur (B s).e (0,0))∧RowR I w B m (B s).row cur (m s).base (m s).sz∧BM c I (B s) (m s) cur
def act (B:Nat→Blk) (m:Nat→Reg) (s:Nat):Prop:=((B s).mode = .own∨(B s).mode = .win)∧(m s).cap≠0
structure WR {P:Program} (c:Ctx P) (I:Nat→Prop) (m:Nat→Reg) (B:Nat→Blk) (w:World):Prop where
  os:w.os=c.w0.os
  tape:w.tape=c.w0.tape
  output:w.output=c.w0.output
  size:c.w0.heap.size≤w.heap.size
  frame : ∀ k,k < c.w0.heap.size→c.wg.map (·.1)≠some k→w.heap[k]?=c.w0.heap[k]?
  frameW : ∀ g lo hi,c.wg=some (g,lo,hi)→∃ cur0 cur e,c.w0.heap[g]?=some (.cells cur0 e (0,0))∧w.heap[g]?=some (.cells cur e (0,0))∧cur.size=cur0.size ∧
    ∀ i,(i < lo∨hi≤i)→cur[i]?=cur0[i]?
  imm : ∀ k,I k→k < w.heap.size∧(c.A k∨c.w0.heap.size≤k)
  blk : ∀ s,BR c I w B m s
  inj : ∀ s s',act B m s→act B m s'→(m s).g=(m s').g→s=s'
structure SRx {P:Program} (c:Ctx P) (I:Nat→Prop) (m:Nat→Reg) (st:St) (a:Act) (w:World):Prop where
  wr:WR c I m st.b w
  def0:a.defers = []
  sz:a.tmps.size=c.n
  tmp : ∀ x,VR I w st.b m (st.t x) (a.tmps.getD x undef)
def SR {P:Program} (c:Ctx P) (st:St) (a:Act) (w:World):Prop:=∃ I m,SRx c I m st a w
theorem Sp.full {P:Program} {b:Blk} {r:Reg} {cur:Array Value} (hb:r.base=0) (hs:cur.size≤(r.base + b.row.len) * r.sz):Sp P b r cur:=fun _ _ i hi k n=>by
  rcases hi with hi|hi
  · rw [hb] at hi;omega
  · rw [Array.getElem?_eq_none (by omega)];simp
theorem lt_of_some {α:Type} {xs:Array α} {k:Nat} {x:α} (h:xs[k]?=some x):k < xs.size:=(Array.getElem?_eq_some_iff.1 h).1
theorem RowR.mono {I I':Nat→Prop} {w w':World} {B B':Nat→Blk} {m m':Nat→Reg} {row:Row} {cur:Array Value} {base sz:Nat}
    (h:RowR I w B m row cur base sz) (f : ∀ v V,VR I w B m v V→VR I' w' B' m' v V):RowR I' w' B' m' row cur base sz :=
  fun i hi=>let ⟨V,h1,h2,h3,h4⟩:=h i hi;⟨V,f _ _ h1,h2,h3,h4⟩
section
variable {P : Program} {c : Ctx P} {I : Nat → Prop} {m : Nat → Reg} {B : Nat → Blk} {w w' : World}
theorem WR.keep (h:WR c I m B w) (hb:Below w.heap.size w w') {v:AV} {V:Value} (hv:VR I w B m v V):VR I w' B m v V :=
  hv.grow (fun _ k=>k) fun k hk=>hb.block k (h.imm k hk).1
theorem WR.grow (h:WR c I m B w) (hb:Below w.heap.size w w'):WR c I m B w' where
  os:=hb.os.trans h.os
  tape:=hb.tape.trans h.tape
  output:=hb.output.trans h.output
  size:=Nat.le_trans h.size hb.size
  frame k hk hg:=(hb.block k (Nat.lt_of_lt_of_le hk h.size)).trans (h.frame k hk hg)
  frameW g lo hi hg:=by
    obtain ⟨cur0,cur,e,h1,h2,h3⟩:=h.frameW g lo hi hg
    exact ⟨cur0,cur,e,h1,(hb.block g (lt_of_some h2)).trans h2,h3⟩
  imm k hk:=⟨Nat.lt_of_lt_of_le (h.imm k hk).1 hb.size,(h.imm k hk).2⟩
  blk s hd:=by
    rcases h.blk s hd with h0|⟨cur,h1,h2,h3⟩
    · exact .inl h0
    · exact .inr ⟨cur,(hb.block _ (lt_of_some h1)).trans h1,h2.mono fun v V hv=>h.keep hb hv,h3⟩
  inj:=h.inj
theorem SRx.grow {st:St} {a:Act} (h:SRx c I m st a w) (hb:Below w.heap.size w w'):SRx c I m st a w' :=
  ⟨h.wr.grow hb,h.def0,h.sz,fun x=>h.wr.keep hb (h.tmp x)⟩
theorem Act.put_tmps (a:Act) (d:Nat) (v:Value):(a.put (some d) v).tmps=a.tmps.setIfInBounds d v:=rfl
theorem getD_set {xs:Array Value} {d x:Nat} {v u:Value} (hd:d < xs.size):(xs.setIfInBounds d v).getD x u=if x=d then v else xs.getD x u:=by
  by_cases h:x=d
  · subst h;simp [hd]
  · rw [if_neg h]
    simp only [Array.getD_eq_getD_getElem?]
    rw [Array.getElem?_setIfInBounds_ne (Ne.symm h)]
theorem SRx.put {st:St} {a:Act} (h:SRx c I m st a w) {v:AV} {V:Value} (hv:VR I w st.b m v V) (d:Option Nat) (hd : ∀ x,d=some x→x < c.n) :
    SRx c I m (st.puto d v) (a.put d V) w:=by
  cases d with
  | none=>exact h
  | some d =>
    have hd':d < a.tmps.size:=h.sz ▸ hd d rfl
    refine ⟨h.wr,h.def0,by rw [Act.put_tmps,Array.size_setIfInBounds];exact h.sz,fun x=>?_⟩
    rw [Act.put_tmps,getD_set hd']
    show VR I w st.b m (upd st.t d v x) _
    by_cases e:x=d
    · subst e;rw [upd_same,if_pos rfl];exact hv
    · rw [upd_ne _ _ e,if_neg e];exact h.tmp x
theorem VR.slot {d:Nat} {b:Blk} {r:Reg} (hver:(B d).ver < b.ver) {v:AV} {V:Value} (hv:VR I w B m v V):VR I w (upd B d b) (upd m d r) v V:=by
  refine hv.mono (fun _ k=>k) (fun _ _ _=>rfl) fun s u hu=>?_
  by_cases e:s=d
  · subst e
    rw [upd_same]
    exact ⟨by omega,fun e=>by omega⟩
  · rw [upd_ne _ _ e,upd_ne _ _ e]
    exact ⟨hu,fun e1 e2=>⟨e1,e2,rfl,rfl⟩⟩
theorem WR.slot (h:WR c I m B w) {d:Nat} {b:Blk} {r:Reg} (hver:(B d).ver < b.ver)
    (hbr:b.mode≠.dead→(r.cap=0∧b.row.len=0)∨∃ cur,w.heap[r.g]?=some (.cells cur b.e (0,0))∧RowR I w B m b.row cur r.base r.sz∧BM c I b r cur)
    (hnew:r.cap≠0→∀ s,s≠d→act B m s→(m s).g≠r.g):WR c I (upd m d r) (upd B d b) w where
  os:=h.os
  tape:=h.tape
  output:=h.output
  size:=h.size
  frame:=h.frame
  frameW:=h.frameW
  imm:=h.imm
  blk s hd:=by
    by_cases e:s=d
    · subst e
      rw [upd_same] at hd
      rw [upd_same,upd_same]
      rcases hbr hd with h0|⟨cur,h1,h2,h3⟩
      · exact .inl h0
      · exact .inr ⟨cur,h1,h2.mono fun v V hv=>hv.slot hver,h3⟩
    · rw [upd_ne _ _ e] at hd
      rw [upd_ne _ _ e,upd_ne _ _ e]
      rcases h.blk s hd with h0|⟨cur,h1,h2,h3⟩
      · exact .inl h0
      · exact .inr ⟨cur,h1,h2.mono fun v V hv=>hv.slot hver,h3⟩
  inj s s' ha ha' hg:=by
    by_cases e:s=d
    · by_cases e':s'=d
      · rw [e,e']
      · subst e
        unfold act at ha ha'
        rw [upd_same,upd_same] at ha
        rw [upd_ne _ _ e',upd_ne _ _ e'] at ha'
        rw [upd_same,upd_ne _ _ e'] at hg
        exact absurd hg.symm (hnew ha.2 s' e' ha')
    · by_cases e':s'=d
      · subst e'
        unfold act at ha ha'
        rw [upd_same,upd_same] at ha'
        rw [upd_ne _ _ e,upd_ne _ _ e] at ha
        rw [upd_same,upd_ne _ _ e] at hg
        exact absurd hg (hnew ha'.2 s e ha)
      · unfold act at ha ha'
        rw [upd_ne _ _ e,upd_ne _ _ e] at ha
        rw [upd_ne _ _ e',upd_ne _ _ e'] at ha'
        rw [upd_ne _ _ e,upd_ne _ _ e'] at hg
        exact h.inj s s' ha ha' hg
theorem SRx.slot {st:St} {a:Act} (h:SRx c I m st a w) {d:Nat} {b:Blk} {r:Reg} (hver:(st.b d).ver < b.ver)
    (hbr:b.mode≠.dead→(r.cap=0∧b.row.len=0)∨∃ cur,w.heap[r.g]?=some (.cells cur b.e (0,0))∧RowR I w st.b m b.row cur r.base r.sz∧BM c I b r cur)
    (hnew:r.cap≠0→∀ s,s≠d→act st.b m s→(m s).g≠r.g):SRx c I (upd m d r) (st.putb d b) a w :=
  ⟨h.wr.slot hver hbr hnew,h.def0,h.sz,fun x=>(h.tmp x).slot hver⟩
theorem WR.read (h:WR c I m B w) {I':Nat→Prop} (hI : ∀ k,I k→I' k) (hi : ∀ k,I' k→k < w.heap.size∧(c.A k∨c.w0.heap.size≤k))
    (ho : ∀ s,((B s).mode = .own∨(B s).mode = .win)→¬ ((m s).cap=0∧(B s).row.len=0)→¬ I (m s).g→¬ I' (m s).g):WR c I' m B w where
  os:=h.os
  tape:=h.tape
  output:=h.output
  size:=h.size
  frame:=h.frame
  frameW:=h.frameW
  imm:=hi
  blk s hd:=by
    rcases h.blk s hd with h0|⟨cur,h1,h2,h3⟩
    · exact .inl h0
    · by_cases hz:(m s).cap=0∧(B s).row.len=0
      · exact .inl hz
      refine .inr ⟨cur,h1,h2.mono fun v V hv=>hv.grow hI fun _ _=>rfl,?_⟩
      have:=ho s
      unfold BM at h3 ⊢
      cases hm:(B s).mode <;> rw [hm] at h3 this <;> simp only at h3 ⊢
      · exact ⟨h3.1,h3.2.1,h3.2.2.1,h3.2.2.2.1,this (.inl rfl) hz h3.2.2.2.2.1,h3.2.2.2.2.2⟩
      · exact ⟨this (.inr rfl) hz h3.1,h3.2⟩
      · exact hI _ h3
  inj:=h.inj
theorem WR.own_lt (h:WR c I m B w) {s:Nat} (ha:act B m s):(m s).g < w.heap.size:=by
  have hd:(B s).mode≠.dead:=by intro e;rcases ha.1 with h|h <;> rw [e] at h <;> cases h
  rcases h.blk s hd with h0|⟨cur,h1,_⟩
  · exact absurd h0.1 ha.2
  · exact lt_of_some h1
end
end Go.AVL
end

section
namespace Go.AVL
open Go.RowKit
set_option linter.unusedVariables false
set_option linter.unusedSimpArgs false
inductive TD where
  | int (k:IntKind)|bool|str|sl (e:TypeId)|st (fs:List (Nat×TypeId×Nat))|arr (n:Nat) (e:TypeId)|ptr (e:TypeId)|other
structure TInfo where
  agg:Bool
  size:Nat
  bytes:Nat
  zero:List AV
  d:TD
def td (P:Program):TypeDesc→TD
  | .int k=>.int k | .bool=>.bool | .string=>.str | .slice e=>.sl e
  | .struct fs=>.st (fs.toList.map fun f=>(f.offset,f.type,P.cellsOf f.type))
  | .array n e=>.arr n e | .pointer e=>.ptr e|_=>.other
def aggOf:TypeDesc→Bool
  | .struct _ | .array _ _=>true
  | _=>false
def zm:AV→Value→Bool
  | .int k n, .int k' n'=>k == k' && n == n'
  | .bool b, .bool b'=>b == b'
  | .str s, .string s'=>s.size == 0 && s'.size == 0
  | .fi _ l, .slice none 0 0=>l.isEmpty
  | .fv es, .slice none 0 0=>es.isEmpty
  | .bad,v=>v.oneCell'
  | _,_=>false
def isAggV:Value→Bool
  | .agg _=>true
  | _=>false
def zms:List AV→List Value→Bool
  | [],[]=>true
  | a :: as,v :: vs=>zm a v && zms as vs
  | _,_=>false
def fok (P:Program):TypeDesc→Bool
  | .struct fs=>fs.toList.all fun f=>(P.info? f.type).isSome
  | _=>true
def tinfo (P:Program) (t:TypeId):Option TInfo :=
  match P.info? t,P.underlying t with
  | some i,some d=>match i.zero with
    | some z=>if zms (zc P 8 t) z.cells.toList && z.cells.size == i.size && (aggOf d == isAggV z) && fok P d then some ⟨aggOf d,i.size,i.bytes,zc P 8 t,td P d⟩ else none
    | none=>none
  | _,_=>none
class TI (P:Program) (t:TypeId) (i:outParam TInfo):Prop where
  eq:tinfo P t=some i
def TInfo.zeroV (i:TInfo):AV:=match i.agg with|true=>.agg i.zero|false=>i.zero.headD .bad
theorem bytes_empty {s:ByteArray} (h:(s.size == 0)=true):s = .empty:=by
  have h':s.size=0:=by simpa using h
  cases s with
  | mk d =>
    have:d.size=0:=h'
    have:d = #[]:=Array.eq_empty_of_size_eq_zero this
    subst this
    rfl
theorem zm_VR {I:Nat→Prop} {w:World} {B:Nat→Blk} {m:Nat→Reg} {v:AV} {V:Value} (h:zm v V=true):VR I w B m v V∧V.oneCell'=true:=by
  unfold zm at h
  split at h
  · simp at h;obtain ⟨rfl,rfl⟩:=h;exact ⟨.int _ _,rfl⟩
  · simp at h;subst h;exact ⟨.bool _,rfl⟩
  · rw [Bool.and_eq_true] at h
    rw [bytes_empty h.1,bytes_empty h.2]
    exact ⟨.str _,rfl⟩
  · rw [List.isEmpty_iff] at h;subst h;exact ⟨.fi _ [] none 0 (Nat.le_refl _) (fun i hi=>absurd hi (Nat.not_lt_zero i)),rfl⟩
  · rw [List.isEmpty_iff] at h;subst h;exact ⟨.fv [] none 0 0 (fun _=>undef) (Nat.le_refl _) (fun i hi=>absurd hi (Nat.not_lt_zero i)) (fun i hi=>absurd hi (Nat.not_lt_zero i)),rfl⟩
  · exact ⟨.bad _,h⟩
  · cases h
theorem zms_VR {I:Nat→Prop} {w:World} {B:Nat→Blk} {m:Nat→Reg} : ∀ {as:List AV} {vs:List Value},zms as vs=true →
    as.length=vs.length∧(∀ u ∈ vs,u.oneCell'=true)∧∀ i,i < as.length→VR I w B m (as.getD i .bad) (vs.getD i undef)
  | [],[],_=>⟨rfl,(fun u hu=>nomatch hu),fun i hi=>absurd hi (Nat.not_lt_zero i)⟩
  | a :: as,v :: vs,h=>by
    simp only [zms,Bool.and_eq_true] at h
    obtain ⟨h1,h2,h3⟩:=zms_VR (I:=I) (w:=w) (B:=B) (m:=m) h.2
    refine ⟨by simp [h1],?_,?_⟩
    · intro u hu
      rcases List.mem_cons.1 hu with rfl|hu
      · exact (zm_VR (I:=I) (w:=w) (B:=B) (m:=m) h.1).2
      · exact h2 u hu
    · intro i hi
      cases i with
      | zero=>exact (zm_VR h.1).1
      | succ i=>exact h3 i (by simpa using hi)
structure TF (P:Program) (t:TypeId) (i:TInfo) (inf:TypeInfo) (d:TypeDesc) (z:Value):Prop where
  info:P.info? t=some inf
  und:P.underlying t=some d
  zero:inf.zero=some z
  size:inf.size=i.size
  bytes:inf.bytes=i.bytes
  dd:i.d=td P d
  agg:i.agg=aggOf d
  zsz:z.cells.size=i.size
  zlen:i.zero.length=i.size
  zone : ∀ u ∈ z.cells.toList,u.oneCell'=true
  zvr : ∀ I w B m,VR I w B m i.zeroV z
  fok:fok P d=true
  zcell : ∀ I w B m j,j < i.size→VR I w B m (i.zero.getD j .bad) (z.cells.getD j undef)
theorem TI.facts {P:Program} {t:TypeId} {i:TInfo} (h:TI P t i) : ∃ inf d z,TF P t i inf d z:=by
  have e:=h.eq
  unfold tinfo at e
  split at e
  · rename_i inf d h1 h2
    split at e
    · rename_i z h3
      split at e
      · rename_i hc
        simp only [Bool.and_eq_true,beq_iff_eq] at hc
        obtain ⟨⟨⟨hz,hs⟩,ha⟩,hf⟩:=hc
        have e':=Option.some.inj e
        subst e'
        have hl:(zc P 8 t).length=inf.size:=by
          have:=(zms_VR (I:=fun _=>True) (w:=default) (B:=fun _=>default) (m:=fun _=>default) hz).1
          rw [this,Array.length_toList,hs]
        refine ⟨inf,d,z,h1,h2,h3,rfl,rfl,rfl,rfl,hs,hl,(zms_VR (I:=fun _=>True) (w:=default) (B:=fun _=>default) (m:=fun _=>default) hz).2.1,?_,hf,?_⟩
        · intro I w B m
          obtain ⟨k1,k2,k3⟩:=zms_VR (I:=I) (w:=w) (B:=B) (m:=m) hz
          simp only [TInfo.zeroV,ha]
          cases z <;> simp only [isAggV]
          case agg vs =>
            refine .agg _ _ (by rw [k1];simp [Value.cells]) k2 fun j hj=>?_
            have:=k3 j hj
            simpa [Value.cells] using this
          all_goals
            have h0:=k3 0
            rw [k1] at h0
            simp only [Value.cells,List.length_cons,List.length_nil,Nat.zero_lt_one,Nat.zero_add,forall_const] at h0
            cases hz0:zc P 8 t with
            | nil=>rw [hz0] at k1;simp [Value.cells] at k1
            | cons x xs=>rw [hz0] at h0;simpa using h0
        · intro I w B m j hj
          obtain ⟨k1,k2,k3⟩:=zms_VR (I:=I) (w:=w) (B:=B) (m:=m) hz
          have:=k3 j (by rw [hl];exact hj)
          rwa [show z.cells.toList.getD j undef=z.cells.getD j undef by simp [List.getD]] at this
      · cases e
    · cases e
  · cases e
theorem TI.zc {P:Program} {t:TypeId} {i:TInfo} (h:TI P t i):i.zero=zc P 8 t:=by
  have e:=h.eq
  unfold tinfo at e
  split at e
  · split at e
    · split at e
      · have e':=Option.some.inj e
        rw [← e']
      · cases e
    · cases e
  · cases e
theorem noIL_at : ∀ {l:List AV} {j:Nat},noIL l=true→j < l.length→(∀ k n,l.getD j .bad≠.int k n)∧(l.getD j .bad).isBad=false
  | [],j,_,hj=>absurd hj (Nat.not_lt_zero j)
  | v :: l,0,h,_=>by
    cases v <;> simp only [noIL] at h <;> first|(cases h;done)|exact ⟨fun k n e=>by simp at e,rfl⟩
  | v :: l,j + 1,h,hj=>by
    have h':noIL l=true:=by cases v <;> simp only [noIL] at h <;> first|(cases h;done)|exact h
    rw [List.getD_cons_succ]
    exact noIL_at h' (by simpa using hj)
theorem VR.not_int {I:Nat→Prop} {w:World} {B:Nat→Blk} {m:Nat→Reg} {v:AV} {V:Value} (h:VR I w B m v V) (hv : ∀ k n,v≠.int k n) (hb:v.isBad=false) : ∀ k n,V≠.int k n:=by
  intro k n e
  subst e
  cases h with
  | int=>exact hv _ _ rfl
  | nob=>cases hb
  | bad=>cases hb
theorem zero_not_int {P:Program} {e:TypeId} {ie:TInfo} (he:TI P e ie) {ein:TypeInfo} {eds:TypeDesc} {ez:Value} (E:TF P e ie ein eds ez) (hn:noIL (zc0 P e)=true) : ∀ j,j < ez.cells.size→∀ k n,ez.cells[j]?≠some (.int k n):=by
  intro j hj k n
  have hz:noIL ie.zero=true:=by rw [he.zc];exact hn
  have hj':j < ie.size:=by rw [← E.zsz];exact hj
  obtain ⟨h1,h2⟩:=noIL_at hz (show j < ie.zero.length by rw [E.zlen];exact hj')
  have h3:=(E.zcell (fun _=>True) default (fun _=>default) (fun _=>default) j hj').not_int h1 h2 k n
  intro e
  rw [Array.getD_eq_getD_getElem?,e] at h3
  exact h3 rfl
inductive Ext:List AV→Nat→Nat→List AV→Prop
  | skip {c cs o n r}:Ext cs o n r→Ext (c :: cs) (o + 1) n r
  | take {c cs n r}:Ext cs 0 n r→Ext (c :: cs) 0 (n + 1) (c :: r)
  | done {cs}:Ext cs 0 0 []
theorem Ext.eq {cs:List AV} {o n:Nat} {r:List AV} (h:Ext cs o n r):r=(cs.drop o).take n∧o + n≤cs.length:=by
  induction h with
  | skip _ ih=>exact ⟨by simpa using ih.1,by have:=ih.2;simp;omega⟩
  | take _ ih=>exact ⟨by rw [ih.1];simp,by have:=ih.2;simp;omega⟩
  | done=>simp
inductive Part:Bool→Nat→Nat→AV→AV→Prop
  | whole {cs n}:cs.length=n→Part true n 0 (.agg cs) (.agg cs)
  | sub {cs n o r}:Ext cs o n r→Part true n o (.agg cs) (.agg r)
  | cell {cs o v}:cs[o]?=some v→Part false 1 o (.agg cs) v
  | self {v}:v.one=true→Part false 1 0 v v
theorem VR.cells_size {I:Nat→Prop} {w:World} {B:Nat→Blk} {m:Nat→Reg} {v:AV} {V:Value} (h:VR I w B m v V) (hb:v.isBad=false):V.cells.size=v.cells.length:=by
  cases h <;> first|rfl|(simp only [AV.cells,Value.cells];symm;assumption)|(simp [AV.isBad] at hb)
theorem VR.cell {I:Nat→Prop} {w:World} {B:Nat→Blk} {m:Nat→Reg} {cs:List AV} {V:Value} (h:VR I w B m (.agg cs) V) :
    ∃ vs,V = .agg vs∧cs.length=vs.size∧(∀ u ∈ vs.toList,u.oneCell'=true)∧∀ i,i < cs.length→VR I w B m (cs.getD i .bad) (vs.getD i undef):=by
  cases h with
  | agg _ vs h1 h2 h3=>exact ⟨vs,rfl,h1,h2,h3⟩
end Go.AVL
end

section
namespace Go.AVL
open Go.RowKit
set_option linter.unusedVariables false
set_option linter.unusedSimpArgs false
def Var (w:World) (b o:Nat) (V:Value):Prop:=∀ j,j < V.cells.size→w.cell? ⟨b,o + j,none⟩=V.cells[j]?
section
variable {P : Program} {c : Ctx P} {I : Nat → Prop} {m : Nat → Reg} {B : Nat → Blk} {w w' : World}
theorem cell_of_heap {g x:Nat} {cur:Array Value} {e:TypeId} {fz:Nat×Nat} (h:w.heap[g]?=some (.cells cur e fz)):w.cell? ⟨g,x,none⟩=cur[x]?:=by
  simp [World.cell?,h]
theorem WR.var (h:WR c I m B w) {s i:Nat} (hm:(B s).mode≠.dead) (hi:i < (B s).row.len) :
    ∃ V,VR I w B m ((B s).row.get i) V∧Var w (m s).g (((m s).base + i) * (m s).sz) V∧V.cells.size=(m s).sz∧∀ u ∈ V.cells.toList,u.oneCell'=true:=by
  rcases h.blk s hm with h0|⟨cur,h1,h2,h3⟩
  · omega
  · obtain ⟨V,k1,k2,k3,k4⟩:=h2 i hi
    exact ⟨V,k1,fun j hj=>by rw [cell_of_heap h1,k4 j (k2 ▸ hj)],k2,k3⟩
theorem addr_add (a:Addr) (j:Nat) (h:a.spot=none):a.add j=⟨a.block,a.off + j,none⟩:=by
  cases a with
  | mk b o s =>
    subst h
    unfold Addr.add
    split
    · rename_i h;subst h;rfl
    · rfl
theorem run_isAgg {t:TypeId} {d:TypeDesc} (h:P.underlying t=some d) (w:World):(isAgg t).run P w = .ok (aggOf d) w:=by
  cases d <;> simp [isAgg,run_underlying h,aggOf]
theorem run_size {t:TypeId} {inf:TypeInfo} (h:P.info? t=some inf) (w:World):(sizeOf t).run P w = .ok inf.size w:=by
  simp [sizeOf,typeInfo,h]
theorem load_part {t:TypeId} {i:TInfo} (ht:TI P t i) {v v':AV} {off:Nat} {V:Value} {b o:Nat} (hv:VR I w B m v V) (hvar:Var w b o V)
    (h1 : ∀ u ∈ V.cells.toList,u.oneCell'=true) (hp:Part i.agg i.size off v v') :
    ∃ V',(Instr.loadAt t (.pointer (some ⟨b,o + off,none⟩))).run P w = .ok V' w∧VR I w B m v' V':=by
  obtain ⟨inf,d,z,F⟩:=ht.facts
  have hagg:=F.agg
  have hsz:=F.size
  generalize hga:i.agg=ag at hp hagg
  generalize hgs:i.size=sz at hp hsz
  have cellsL : ∀ (vs:Array Value) (o' n:Nat),V = .agg vs→o' + n≤vs.size→(loadCells ⟨b,o + o',none⟩ n).run P w = .ok (vs.extract o' (o' + n)) w:=by
    intro vs o' n e hle
    have hl:(vs.extract o' (o' + n)).toList.length=n:=by simp;omega
    have:=run_loadCells_list (P:=P) (w:=w) ⟨b,o + o',none⟩ (vs.extract o' (o' + n)).toList (fun j u hj=>by
      rw [addr_add _ _ rfl]
      have hj':j < n:=by
        have:=(List.getElem?_eq_some_iff.1 hj).1
        omega
      show w.cell? ⟨b,o + o' + j,none⟩=some u
      rw [Nat.add_assoc,hvar (o' + j) (by rw [e];simp [Value.cells];omega),e]
      rw [← hj]
      simp only [Value.cells,Array.getElem?_toList]
      rw [Array.getElem?_extract]
      rw [if_pos (by omega)])
    rw [hl] at this
    rw [this]
  cases hp with
  | @whole cs n hn =>
    obtain ⟨vs,rfl,hl,h3,h4⟩:=hv.cell
    refine ⟨.agg vs,?_,hv⟩
    have:=cellsL vs 0 sz rfl (by omega)
    simp only [Nat.zero_add,Nat.add_zero] at this
    have he:vs.extract 0 sz=vs:=by
      rw [← hn,hl];simp
    rw [he] at this
    simp [Instr.loadAt,Instr.sureAddr,loadVar,run_isAgg F.und,← hagg,run_size F.info,hsz,this]
  | @sub cs n o' r he =>
    obtain ⟨vs,rfl,hl,h3,h4⟩:=hv.cell
    obtain ⟨e1,e2⟩:=he.eq
    have hlen:r.length=sz:=by rw [e1];simp;omega
    refine ⟨.agg (vs.extract off (off + sz)),?_, .agg _ _ (by rw [hlen];simp;omega) (fun u hu=>?_) fun j hj=>?_⟩
    · have:=cellsL vs off sz rfl (by omega)
      simp [Instr.loadAt,Instr.sureAddr,loadVar,run_isAgg F.und,← hagg,run_size F.info,hsz,this]
    · refine h3 u ?_
      rw [Array.toList_extract] at hu
      exact List.mem_of_mem_drop (List.mem_of_mem_take hu)
    · have:=h4 (off + j) (by omega)
      rw [e1]
      simp only [List.getD_eq_getElem?_getD,List.getElem?_take,List.getElem?_drop,Array.getD_eq_getD_getElem?,Array.getElem?_extract] at this ⊢
      rw [if_pos (by omega),if_pos (by omega)]
      exact this
  | @cell cs o' v' hc =>
    obtain ⟨vs,rfl,hl,h3,h4⟩:=hv.cell
    have ho:off < cs.length:=(List.getElem?_eq_some_iff.1 hc).1
    have:=h4 off ho
    have hV:vs[off]?=some (vs.getD off undef):=by simp [Array.getD,hl ▸ ho]
    refine ⟨vs.getD off undef,?_,?_⟩
    · have hcell:w.cell? ⟨b,o + off,none⟩=some (vs.getD off undef):=by
        rw [hvar off (by simp [Value.cells];omega)]
        exact hV
      simp [Instr.loadAt,Instr.sureAddr,loadVar,load,Sem.run,run_isAgg F.und,← hagg,hcell]
      first|done|exact Array.getD_eq_getD_getElem? vs off undef ▸ rfl
    · rw [List.getD_eq_getElem?_getD,hc] at this
      exact this
  | self hone =>
    obtain ⟨k1,k2⟩:=hv.one hone
    refine ⟨V,?_,hv⟩
    have hcell:w.cell? ⟨b,o + 0,none⟩=some V:=by
      rw [hvar 0 (by rw [k2];simp),k2]
      rfl
    simp only [Nat.add_zero] at hcell ⊢
    simp [Instr.loadAt,Instr.sureAddr,loadVar,load,Sem.run,run_isAgg F.und,← hagg,hcell]
end
end Go.AVL
end

section
namespace Go.AVL
open Go.RowKit
set_option linter.unusedVariables false
set_option linter.unusedSimpArgs false
def CallW (P:Program) (f:FuncId) (V:Array Value) (w:World) (K:Value→World→Prop):Prop :=
  match (callFunc f V).run P w with
  | .ok (.value v) w'=>K v w'
  | .ok (.enter g as) w'=>Calls P g as w' fun
    | .returned v,w''=>K v w''
    | _,_=>False
  | _=>False
theorem CallW.mono {P:Program} {f:FuncId} {V:Array Value} {w:World} {K K':Value→World→Prop} (h:CallW P f V w K) (hk : ∀ v w',K v w'→K' v w'):CallW P f V w K':=by
  unfold CallW at *
  split at h
  · exact hk _ _ h
  · exact Calls.mono h fun e w'' he=>by cases e <;> first|exact hk _ _ he|exact he
  · exact h
def FRS:Nat:=1000000
structure Io where
  win:Option (Nat×Row×Row×TypeId)
  fresh:Option (Row×TypeId)
def Io.no:Io:=⟨none,none⟩
def noB:Nat→Blk:=fun _=>⟨0, .dead, .vals [],0⟩
def Io.bIn (io:Io):Nat→Blk:=match io.win with|some (p,r,_,e)=>upd noB p ⟨1, .win,r,e⟩|none=>noB
def Io.bOut (io:Io):Nat→Blk :=
  let b:=match io.win with|some (p,_,r,e)=>upd noB p ⟨1, .win,r,e⟩|none=>noB
  match io.fresh with|some (r,e)=>upd b FRS ⟨1, .own,r,e⟩|none=>b
def AV.mk:List AV→AV
  | [v]=>v
  | vs=>.tup vs
def CS (P:Program) (f:FuncId) (args:List AV) (io:Io) (res:List AV):Prop :=
  ∀ (A:Nat→Prop) (wg:Option (Nat×Nat×Nat)) (w:World) (m:Nat→Reg) (V:Array Value),
    (io.win=none→wg=none)→WR (⟨0,w,A,wg⟩:Ctx P) A m io.bIn w→V.size=args.length→(∀ i,i < args.length→VR A w io.bIn m (args.getD i .bad) (V.getD i undef)) →
    CallW P f V w fun v w'=>∃ I' m',WR (⟨0,w,A,wg⟩:Ctx P) I' m' io.bOut w'∧(∀ p r1 r2 e,io.win=some (p,r1,r2,e)→r2.len≠0→m' p=m p)∧VR I' w' io.bOut m' (AV.mk res) v
inductive Cl:AV→Prop
  | int {k n}:Cl (.int k n)
  | bool {b}:Cl (.bool b)
  | str {s}:Cl (.str s)
  | fi {k l}:Cl (.fi k l)
  | fv {es}:(∀ i,i < es.length→Cl (es.getD i .bad))→Cl (.fv es)
  | agg {cs}:(∀ i,i < cs.length→Cl (cs.getD i .bad))→Cl (.agg cs)
  | tup {cs}:(∀ i,i < cs.length→Cl (cs.getD i .bad))→Cl (.tup cs)
  | fn {f cs}:(∀ i,i < cs.length→Cl (cs.getD i .bad))→Cl (.fn f cs)
  | bad:Cl .bad
def ClL (vs:List AV):Prop:=∀ i,i < vs.length→Cl (vs.getD i .bad)
theorem ClL.nil:ClL []:=fun i hi=>absurd hi (Nat.not_lt_zero i)
theorem ClL.cons {v:AV} {vs:List AV} (h:Cl v) (hs:ClL vs):ClL (v :: vs):=fun i hi=>by
  cases i with
  | zero=>exact h
  | succ i=>exact hs i (by simpa using hi)
theorem Cl.vr {I I':Nat→Prop} {w w':World} {B B':Nat→Blk} {m m':Nat→Reg} {v:AV} (hc:Cl v) : ∀ {V:Value},VR I w B m v V→(∀ k,I k→I' k) →
    (∀ k o,I k→w'.cell? ⟨k,o,none⟩=w.cell? ⟨k,o,none⟩)→VR I' w' B' m' v V:=by
  induction hc with
  | int=>intro V h hI hw;cases h;exact .int _ _
  | bool=>intro V h hI hw;cases h;exact .bool _
  | str=>intro V h hI hw;cases h;exact .str _
  | fi =>
    intro V h hI hw
    cases h with
    | fi _ _ a cap h1 h2=>exact .fi _ _ a cap h1 fun i hi=>let ⟨ad,e1,e2,e3,e4⟩:=h2 i hi;⟨ad,e1,e2,hI _ e3,by rw [hw _ _ e3,e4]⟩
  | fv _ ih =>
    intro V h hI hw
    cases h with
    | fv _ a cap sz V h1 h2 h3 =>
      exact .fv _ a cap sz V h1 (fun i hi=>ih i hi (h2 i hi) hI hw) fun i hi=>let ⟨e0,e5,ad,e1,e2,e3,e4⟩:=h3 i hi;⟨e0,e5,ad,e1,e2,hI _ e3,fun j hj=>by rw [hw _ _ e3,e4 j hj]⟩
  | agg _ ih =>
    intro V h hI hw
    cases h with
    | agg _ vs h1 h2 h3=>exact .agg _ vs h1 h2 fun i hi=>ih i hi (h3 i hi) hI hw
  | tup _ ih =>
    intro V h hI hw
    cases h with
    | tup _ vs h1 h2=>exact .tup _ vs h1 fun i hi=>ih i hi (h2 i hi) hI hw
  | fn _ ih =>
    intro V h hI hw
    cases h with
    | fn _ _ vs h1 h2=>exact .fn _ _ vs h1 fun i hi=>ih i hi (h2 i hi) hI hw
  | bad=>intro V h hI hw;exact .bad V
inductive Flat:AV→Prop
  | int {k n}:Flat (.int k n)
  | bool {b}:Flat (.bool b)
  | str {s}:Flat (.str s)
  | agg {cs}:(∀ i,i < cs.length→Flat (cs.getD i .bad))→Flat (.agg cs)
  | tup {cs}:(∀ i,i < cs.length→Flat (cs.getD i .bad))→Flat (.tup cs)
  | bad:Flat .bad
def FlL (vs:List AV):Prop:=∀ i,i < vs.length→Flat (vs.getD i .bad)
theorem FlL.nil:FlL []:=fun i hi=>absurd hi (Nat.not_lt_zero i)
theorem FlL.cons {v:AV} {vs:List AV} (h:Flat v) (hs:FlL vs):FlL (v :: vs):=fun i hi=>by
  cases i with
  | zero=>exact h
  | succ i=>exact hs i (by simpa using hi)
theorem getD_mid {α:Type} (pre:List α) (x:α) (post:List α) (i:Nat) (d:α):(pre ++ x :: post).getD i d=if i < pre.length then pre.getD i d else if i=pre.length then x else post.getD (i - pre.length - 1) d:=by
  simp only [List.getD_eq_getElem?_getD]
  by_cases h:i < pre.length
  · rw [if_pos h,List.getElem?_append_left h]
  · rw [if_neg h,List.getElem?_append_right (by omega)]
    by_cases e:i=pre.length
    · rw [if_pos e,e,Nat.sub_self];rfl
    · rw [if_neg e]
      obtain ⟨j,hj⟩ : ∃ j,i - pre.length=j + 1:=⟨i - pre.length - 1,by omega⟩
      rw [hj];rfl
theorem AV.mk_tup : ∀ {vs:List AV},vs.length≠1→AV.mk vs = .tup vs
  | [],_=>rfl
  | [_],h=>absurd rfl h
  | _ :: _ :: _,_=>rfl
theorem Flat.vr {I I':Nat→Prop} {w w':World} {B B':Nat→Blk} {m m':Nat→Reg} {v:AV} (hc:Flat v) : ∀ {V:Value},VR I w B m v V→VR I' w' B' m' v V:=by
  induction hc with
  | int=>intro V h;cases h;exact .int _ _
  | bool=>intro V h;cases h;exact .bool _
  | str=>intro V h;cases h;exact .str _
  | agg _ ih =>
    intro V h
    cases h with
    | agg _ vs h1 h2 h3=>exact .agg _ vs h1 h2 fun i hi=>ih i hi (h3 i hi)
  | tup _ ih =>
    intro V h
    cases h with
    | tup _ vs h1 h2=>exact .tup _ vs h1 fun i hi=>ih i hi (h2 i hi)
  | bad=>intro V h;exact .bad V
theorem mk_swap {I I':Nat→Prop} {w w':World} {B B':Nat→Blk} {m m':Nat→Reg} {pre post:List AV} {x x':AV} {v:Value} (hp:FlL pre) (hq:FlL post) (f : ∀ V,VR I w B m x V→VR I' w' B' m' x' V)
    (h:VR I w B m (AV.mk (pre ++ x :: post)) v):VR I' w' B' m' (AV.mk (pre ++ x' :: post)) v:=by
  by_cases h1:(pre ++ x :: post).length=1
  · have e1:pre = []:=List.eq_nil_of_length_eq_zero (by simp at h1;omega)
    have e2:post = []:=List.eq_nil_of_length_eq_zero (by simp at h1;omega)
    subst e1;subst e2
    exact f v h
  · have h2:(pre ++ x' :: post).length≠1:=by simp at h1 ⊢;omega
    rw [AV.mk_tup h1] at h
    rw [AV.mk_tup h2]
    cases h with
    | tup _ vs hl hv =>
      refine .tup _ _ (by simp at hl ⊢;omega) fun i hi=>?_
      have:=hv i (by simp at hi ⊢;omega)
      rw [getD_mid] at this ⊢
      by_cases a:i < pre.length
      · rw [if_pos a] at this ⊢
        exact (hp i a).vr this
      · rw [if_neg a] at this ⊢
        by_cases b:i=pre.length
        · rw [if_pos b] at this ⊢
          exact f _ this
        · rw [if_neg b] at this ⊢
          exact (hq _ (by simp at hi;omega)).vr this
inductive Sh:AV→Prop
  | int {k n}:Sh (.int k n)
  | bool {b}:Sh (.bool b)
  | str {s}:Sh (.str s)
  | fi {k l}:Sh (.fi k l)
  | agg {cs}:(∀ i,i < cs.length→Sh (cs.getD i .bad))→Sh (.agg cs)
  | tup {cs}:(∀ i,i < cs.length→Sh (cs.getD i .bad))→Sh (.tup cs)
  | bad:Sh .bad
theorem Sh.vr {I J:Nat→Prop} {w:World} {B B':Nat→Blk} {m m':Nat→Reg} {v:AV} (hc:Sh v) : ∀ {V:Value},VR I w B m v V→(∀ b o k n,I b→w.cell? ⟨b,o,none⟩=some (.int k n)→J b)→VR J w B' m' v V:=by
  induction hc with
  | int=>intro V h _;cases h;exact .int _ _
  | bool=>intro V h _;cases h;exact .bool _
  | str=>intro V h _;cases h;exact .str _
  | fi =>
    intro V h hJ
    cases h with
    | fi _ _ a cap h1 h2=>exact .fi _ _ a cap h1 fun i hi=>let ⟨ad,e1,e2,e3,e4⟩:=h2 i hi;⟨ad,e1,e2,hJ _ _ _ _ e3 e4,e4⟩
  | agg _ ih =>
    intro V h hJ
    cases h with
    | agg _ vs h1 h2 h3=>exact .agg _ vs h1 h2 fun i hi=>ih i hi (h3 i hi) hJ
  | tup _ ih =>
    intro V h hJ
    cases h with
    | tup _ vs h1 h2=>exact .tup _ vs h1 fun i hi=>ih i hi (h2 i hi) hJ
  | bad=>intro V h _;exact .bad V
def NoI (P:Program) (st:St) (ss:List Nat):Prop:=∀ s,s ∈ ss→(st.b s).mode = .own∧noIL (zc0 P (st.b s).e)=true∧∃ es,(st.b s).row = .vals es∧∀ i,i < es.length→(es.getD i .bad).isBad=false∧noIL (es.getD i .bad).cells=true
inductive Ev (st:St):Operand→AV→Prop
  | tmp {t v}:st.t t=v→Ev st (.tmp t) v
  | int {k n}:Ev st (.const (.int k n)) (.int k n)
  | bool {b}:Ev st (.const (.bool b)) (.bool b)
  | str {s}:Ev st (.const (.string s)) (.str s)
  | nilI {k}:Ev st (.const (.slice none 0 0)) (.fi k [])
  | nilV:Ev st (.const (.slice none 0 0)) (.fv [])
  | fn {f}:Ev st (.func f) (.fn f [])
  | fnc {f}:Ev st (.const (.func (.func f) #[] #[])) (.fn f [])
inductive EvL (st:St):List Operand→List AV→Prop
  | nil:EvL st [] []
  | cons {x xs v vs}:Ev st x v→EvL st xs vs→EvL st (x :: xs) (v :: vs)
section
variable {P : Program} {c : Ctx P} {I : Nat → Prop} {m : Nat → Reg} {w w' : World} {st : St} {a : Act}
theorem Ev.vr {x:Operand} {v:AV} (h:Ev st x v) (hs:SRx c I m st a w):VR I w st.b m v (a.eval x):=by
  cases h with
  | @tmp t v e=>have:=hs.tmp t;rw [e] at this;exact this
  | int=>exact .int _ _
  | bool=>exact .bool _
  | str=>exact .str _
  | @nilI k=>exact .fi k [] none 0 (Nat.le_refl _) fun i hi=>absurd hi (Nat.not_lt_zero i)
  | nilV=>exact .fv [] none 0 0 (fun _=>undef) (Nat.le_refl _) (fun i hi=>absurd hi (Nat.not_lt_zero i)) fun i hi=>absurd hi (Nat.not_lt_zero i)
  | @fn f=>exact .fn f [] #[] rfl fun i hi=>absurd hi (Nat.not_lt_zero i)
  | @fnc f=>exact .fn f [] #[] rfl fun i hi=>absurd hi (Nat.not_lt_zero i)
theorem EvL.vr {xs:List Operand} {vs:List AV} (h:EvL st xs vs) (hs:SRx c I m st a w) :
    xs.length=vs.length∧∀ i,i < vs.length→VR I w st.b m (vs.getD i .bad) ((xs.map a.eval).getD i undef):=by
  induction h with
  | nil=>exact ⟨rfl,fun i hi=>absurd hi (Nat.not_lt_zero i)⟩
  | cons hx _ ih =>
    refine ⟨by simp [ih.1],fun i hi=>?_⟩
    cases i with
    | zero=>exact hx.vr hs
    | succ i=>exact ih.2 i (by simpa using hi)
end
inductive Snap (st:St) (ss:List Nat):AV→AV→Prop
  | cl {v}:Cl v→Snap st ss v v
  | osI {s u off len full k l}:s ∈ ss→(st.b s).ver=u→(st.b s).mode≠.dead→(st.b s).row = .ints k l→Snap st ss (.os s u off len full) (.fi k ((l.drop off).take len))
  | osIf {s u len full k l}:s ∈ ss→(st.b s).ver=u→(st.b s).mode≠.dead→(st.b s).row = .ints k l→len=l.length→Snap st ss (.os s u 0 len full) (.fi k l)
  | osV {s u off len full es}:s ∈ ss→(st.b s).ver=u→(st.b s).mode≠.dead→(st.b s).row = .vals es→ClL es→Snap st ss (.os s u off len full) (.fv ((es.drop off).take len))
  | osVf {s u len full es}:s ∈ ss→(st.b s).ver=u→(st.b s).mode≠.dead→(st.b s).row = .vals es→ClL es→len=es.length→Snap st ss (.os s u 0 len full) (.fv es)
  | agg {cs cs'}:cs.length=cs'.length→(∀ i,i < cs.length→Snap st ss (cs.getD i .bad) (cs'.getD i .bad))→Snap st ss (.agg cs) (.agg cs')
  | nilIV {k}:Snap st ss (.fi k []) (.fv [])
  | nilVI {k}:Snap st ss (.fv []) (.fi k [])
  | nilII {k k'}:Snap st ss (.fi k []) (.fi k' [])
def SnapL (st:St) (ss:List Nat) (vs vs':List AV):Prop:=vs.length=vs'.length∧∀ i,i < vs.length→Snap st ss (vs.getD i .bad) (vs'.getD i .bad)
theorem SnapL.nil {st:St} {ss:List Nat}:SnapL st ss [] []:=⟨rfl,fun i hi=>absurd hi (Nat.not_lt_zero i)⟩
theorem SnapL.cons {st:St} {ss:List Nat} {v v':AV} {vs vs':List AV} (h:Snap st ss v v') (hs:SnapL st ss vs vs'):SnapL st ss (v :: vs) (v' :: vs') :=
  ⟨by simp [hs.1],fun i hi=>by
    cases i with
    | zero=>exact h
    | succ i=>exact hs.2 i (by simpa using hi)⟩
def slotI (st:St) (m:Nat→Reg) (ss:List Nat) (k:Nat):Prop:=∃ s,s ∈ ss∧(st.b s).mode≠.dead∧¬ ((m s).cap=0∧(st.b s).row.len=0)∧(m s).g=k
section
variable {P : Program} {c : Ctx P} {I : Nat → Prop} {m : Nat → Reg} {w w' : World} {st : St} {a : Act}
theorem Row.get_ints {k:IntKind} {l:List Int} {i:Nat}:(Row.ints k l).get i = .int k (l.getD i 0):=rfl
theorem getD_take_drop {α:Type} {l:List α} {off len i:Nat} {d:α} (h:i < len):((l.drop off).take len).getD i d=l.getD (off + i) d:=by
  simp only [List.getD_eq_getElem?_getD,List.getElem?_take,List.getElem?_drop]
  rw [if_pos h]
theorem os_ints {B':Nat→Blk} {m':Nat→Reg} (h:WR c I m st.b w) {s u off len:Nat} {full:Bool} {k:IntKind} {l:List Int} {V:Value} (hv:VR I w st.b m (.os s u off len full) V)
    (hu:(st.b s).ver=u) (hm:(st.b s).mode≠.dead) (hr:(st.b s).row = .ints k l) {J:Nat→Prop} (hJ:(¬ ((m s).cap=0∧(st.b s).row.len=0))→J (m s).g) :
    VR J w B' m' (.fi k ((l.drop off).take len)) V:=by
  cases hv with
  | os _ _ _ _ _ ad cap hle h1 =>
    obtain ⟨h2,h3,h4,h5⟩:=h1 hu hm
    have hrl:(st.b s).row.len=l.length:=by rw [hr];rfl
    have hlen:((l.drop off).take len).length=len:=by rw [List.length_take,List.length_drop];omega
    have:=VR.fi (I:=J) (w:=w) (B:=B') (m:=m') k ((l.drop off).take len) ad cap (by omega) (fun i hi=>by
      rw [hlen] at hi
      obtain ⟨V',k1,k2,k3,k4⟩:=h.var hm (i:=off + i) (by omega)
      rw [hr,Row.get_ints] at k1
      cases k1
      have hsz:(m s).sz=1:=by rw [← k3];rfl
      have hcap:cap≠0:=by omega
      have had:=h4.resolve_left hcap
      refine ⟨_,had,rfl,hJ (by omega),?_⟩
      have:=k2 0 (by rw [k3];omega)
      rw [getD_take_drop hi]
      rw [hsz] at this ⊢
      simpa [Value.cells,Nat.add_assoc,Nat.mul_one] using this)
    rw [hlen] at this
    exact this
theorem os_vals {B':Nat→Blk} {m':Nat→Reg} (h:WR c I m st.b w) {s u off len:Nat} {full:Bool} {es:List AV} {V:Value} (hv:VR I w st.b m (.os s u off len full) V)
    (hu:(st.b s).ver=u) (hm:(st.b s).mode≠.dead) (hr:(st.b s).row = .vals es) (hcl:ClL es) {J:Nat→Prop} (hIJ : ∀ k,I k→J k) (hJ:(¬ ((m s).cap=0∧(st.b s).row.len=0))→J (m s).g) :
    VR J w B' m' (.fv ((es.drop off).take len)) V:=by
  cases hv with
  | os _ _ _ _ _ ad cap hle h1 =>
    obtain ⟨h2,h3,h4,h5⟩:=h1 hu hm
    have hrl:(st.b s).row.len=es.length:=by rw [hr];rfl
    have hlen:((es.drop off).take len).length=len:=by rw [List.length_take,List.length_drop];omega
    have hx : ∀ i,i < len→∃ V',VR I w st.b m ((st.b s).row.get (off + i)) V'∧Var w (m s).g (((m s).base + (off + i)) * (m s).sz) V'∧V'.cells.size=(m s).sz∧∀ u ∈ V'.cells.toList,u.oneCell'=true :=
      fun i hi=>h.var hm (by omega)
    have:=VR.fv (I:=J) (w:=w) (B:=B') (m:=m') ((es.drop off).take len) ad cap (m s).sz (fun i=>if hi:i < len then (hx i hi).choose else undef) (by omega) (fun i hi=>by
        rw [hlen] at hi
        obtain ⟨k1,k2,k3,k4⟩:=(hx i hi).choose_spec
        rw [dif_pos hi,getD_take_drop hi]
        have e:(st.b s).row.get (off + i)=es.getD (off + i) .bad:=by rw [hr];rfl
        refine (hcl (off + i) (by omega)).vr (I:=I) (B:=st.b) (m:=m) ?_ hIJ fun _ _ _=>rfl
        rw [← e]
        exact k1) (fun i hi=>by
        rw [hlen] at hi
        obtain ⟨k1,k2,k3,k4⟩:=(hx i hi).choose_spec
        rw [dif_pos hi]
        have hcap:cap≠0:=by omega
        have had:=h4.resolve_left hcap
        refine ⟨k3,k4,_,had,rfl,hJ (by omega),fun j hj=>?_⟩
        have:=k2 j (by omega)
        rw [show ((m s).base + off) * (m s).sz + i * (m s).sz + j=((m s).base + (off + i)) * (m s).sz + j by rw [← Nat.add_mul,Nat.add_assoc]]
        exact this)
    rw [hlen] at this
    exact this
theorem Snap.vr {B':Nat→Blk} {m':Nat→Reg} (hw:WR c I m st.b w) {ss:List Nat} {v v':AV} (h:Snap st ss v v') : ∀ {V:Value},VR I w st.b m v V →
    VR (fun k=>I k∨slotI st m ss k) w B' m' v' V:=by
  induction h with
  | cl hc=>intro V hv;exact hc.vr hv (fun _ k=>.inl k) fun _ _ _=>rfl
  | osI hs hu hm hr=>intro V hv;exact os_ints hw hv hu hm hr fun hn=>.inr ⟨_,hs,hm,hn,rfl⟩
  | @osIf s u len full k l hs hu hm hr hl =>
    intro V hv
    have:=os_ints (B':=B') (m':=m') hw hv hu hm hr (J:=fun k=>I k∨slotI st m ss k) fun hn=>.inr ⟨_,hs,hm,hn,rfl⟩
    subst hl
    simpa using this
  | osV hs hu hm hr hc=>intro V hv;exact os_vals hw hv hu hm hr hc (fun _ k=>.inl k) fun hn=>.inr ⟨_,hs,hm,hn,rfl⟩
  | @osVf s u len full es hs hu hm hr hc hl =>
    intro V hv
    have:=os_vals (B':=B') (m':=m') hw hv hu hm hr hc (J:=fun k=>I k∨slotI st m ss k) (fun _ k=>.inl k) fun hn=>.inr ⟨_,hs,hm,hn,rfl⟩
    subst hl
    simpa using this
  | @agg cs cs' hl _ ih =>
    intro V hv
    obtain ⟨vs,rfl,h1,h2,h3⟩:=hv.cell
    exact .agg _ _ (by omega) h2 fun i hi=>ih i (by omega) (h3 i (by omega))
  | nilIV =>
    intro V hv
    cases hv with
    | fi k l ad cap h1 h2=>exact .fv [] ad cap 0 (fun _=>undef) (Nat.zero_le _) (fun i hi=>absurd hi (Nat.not_lt_zero i)) fun i hi=>absurd hi (Nat.not_lt_zero i)
  | nilVI =>
    intro V hv
    cases hv with
    | fv es ad cap sz V' h1 h2 h3=>exact .fi _ [] ad cap (Nat.zero_le _) fun i hi=>absurd hi (Nat.not_lt_zero i)
  | nilII =>
    intro V hv
    cases hv with
    | fi k l ad cap h1 h2=>exact .fi _ [] ad cap (Nat.zero_le _) fun i hi=>absurd hi (Nat.not_lt_zero i)
end
end Go.AVL
end

section
namespace Go.AVL
open Go.RowKit
set_option linter.unusedVariables false
set_option linter.unusedSimpArgs false
inductive BinR (P:Program):BinOp→TypeId→AV→AV→AV→Prop
  | add {t k a b}:BinR P .add t (.int k a) (.int k b) (.int k (k.wrap (a + b)))
  | sub {t k a b}:BinR P .sub t (.int k a) (.int k b) (.int k (k.wrap (a - b)))
  | mul {t k a b}:BinR P .mul t (.int k a) (.int k b) (.int k (k.wrap (a * b)))
  | quo {t k a b}:b≠0→BinR P .quo t (.int k a) (.int k b) (.int k (k.wrap (a.tdiv b)))
  | rem {t k a b}:b≠0→BinR P .rem t (.int k a) (.int k b) (.int k (a.tmod b))
  | band {t k a b}:BinR P .and t (.int k a) (.int k b) (.int k (bits .and k a b))
  | bor {t k a b}:BinR P .or t (.int k a) (.int k b) (.int k (bits .or k a b))
  | bxor {t k a b}:BinR P .xor t (.int k a) (.int k b) (.int k (bits .xor k a b))
  | bandNot {t k a b}:BinR P .andNot t (.int k a) (.int k b) (.int k (bits .andNot k a b))
  | shl {t k k' a b}:0≤b→BinR P .shl t (.int k a) (.int k' b) (.int k (k.wrap (a * 2 ^ min b.toNat k.bits)))
  | shr {t k k' a b}:0≤b→BinR P .shr t (.int k a) (.int k' b) (.int k (a.fdiv (2 ^ min b.toNat k.bits)))
  | eql {t k a b}:BinR P .eql t (.int k a) (.int k b) (.bool (a == b))
  | neq {t k a b}:BinR P .neq t (.int k a) (.int k b) (.bool (a != b))
  | lss {t k a b}:BinR P .lss t (.int k a) (.int k b) (.bool (decide (a < b)))
  | leq {t k a b}:BinR P .leq t (.int k a) (.int k b) (.bool (decide (a≤b)))
  | gtr {t k a b}:BinR P .gtr t (.int k a) (.int k b) (.bool (decide (a > b)))
  | geq {t k a b}:BinR P .geq t (.int k a) (.int k b) (.bool (decide (a ≥ b)))
  | sadd {t a b}:a.size + b.size≤maxLen→BinR P .add t (.str a) (.str b) (.str (a ++ b))
  | seql {t a b}:BinR P .eql t (.str a) (.str b) (.bool (a.toList == b.toList))
  | sneq {t a b}:BinR P .neq t (.str a) (.str b) (.bool (!(a.toList == b.toList)))
  | beql {t i a b} [h:TI P t i]:i.d = .bool→BinR P .eql t (.bool a) (.bool b) (.bool (a == b))
  | bneq {t i a b} [h:TI P t i]:i.d = .bool→BinR P .neq t (.bool a) (.bool b) (.bool (!(a == b)))
theorem td_bool {P:Program} {d:TypeDesc} (h:td P d = .bool):d = .bool:=by cases d <;> simp [td] at h;rfl
theorem td_str {P:Program} {d:TypeDesc} (h:td P d = .str):d = .string:=by cases d <;> simp [td] at h;rfl
theorem td_int {P:Program} {d:TypeDesc} {k:IntKind} (h:td P d = .int k):d = .int k:=by cases d <;> simp [td] at h;exact h ▸ rfl
theorem td_sl {P:Program} {d:TypeDesc} {e:TypeId} (h:td P d = .sl e):d = .slice e:=by cases d <;> simp [td] at h;exact h ▸ rfl
theorem td_arr {P:Program} {d:TypeDesc} {n:Nat} {e:TypeId} (h:td P d = .arr n e):d = .array n e:=by cases d <;> simp [td] at h;exact h.1 ▸ h.2 ▸ rfl
theorem td_st {P:Program} {d:TypeDesc} {fs:List (Nat×TypeId×Nat)} (h:td P d = .st fs) : ∃ F:Array Field,d = .struct F∧fs=F.toList.map fun f=>(f.offset,f.type,P.cellsOf f.type):=by
  cases d <;> simp [td] at h
  exact ⟨_,rfl,h.symm⟩
theorem run_eqGuard {P:Program} {w:World} {op:BinOp} {t:TypeId} {x y:Operand} {A B:Value} (h:A.oneCell'=true) (hn:A≠.nilIface):(eqGuard op t x y A B).run P w = .ok () w:=by
  cases A <;> first
    | (simp [Value.oneCell'] at h;done)
    | exact absurd rfl hn
    | (cases op <;> rfl)
theorem BinR.run {P:Program} {I:Nat→Prop} {w:World} {B:Nat→Blk} {m:Nat→Reg} {op:BinOp} {t:TypeId} {x y r:AV} {X Y:Value} {ox oy:Operand} (h:BinR P op t x y r)
    (hx:VR I w B m x X) (hy:VR I w B m y Y) : ∃ V,((do eqGuard op t ox oy X Y;binOp op t X Y:Sem Value)).run P w = .ok V w∧VR I w B m r V:=by
  suffices hs : ∃ V,(binOp op t X Y).run P w = .ok V w∧VR I w B m r V∧X.oneCell'=true∧X≠.nilIface by
    obtain ⟨V,h1,h2,h3,h4⟩:=hs
    exact ⟨V,by simp [Sem.run_bind,run_eqGuard h3 h4,h1],h2⟩
  cases h <;> cases hx <;> cases hy
  case beql.bool.bool x y =>
    obtain ⟨inf,d,z,F⟩:=(‹TI P t _›).facts
    have e:=td_bool (F.dd.symm.trans ‹TInfo.d _=TD.bool›)
    have hu:=F.und
    rw [e] at hu
    refine ⟨_,?_, .bool _,rfl,by simp⟩
    show ((do pure (.bool (← Op.equal t _ _)):Sem Value)).run P w=_
    simp [Sem.run_bind,run_equal_bool w t _ _ hu]
  case bneq.bool.bool x y =>
    obtain ⟨inf,d,z,F⟩:=(‹TI P t _›).facts
    have e:=td_bool (F.dd.symm.trans ‹TInfo.d _=TD.bool›)
    have hu:=F.und
    rw [e] at hu
    refine ⟨_,?_, .bool _,rfl,by simp⟩
    show ((do pure (.bool (!(← Op.equal t _ _))):Sem Value)).run P w=_
    simp [Sem.run_bind,run_equal_bool w t _ _ hu]
  all_goals first
    | (refine ⟨_,?_, .int _ _,rfl,by simp⟩;first
        | (simp [binOp,Op.intArith];done)
        | (rename_i hb;simp [binOp,Op.intDiv,hb];done)
        | (simp [binOp,Op.intBits,bits];done)
        | (rename_i hb;simp [binOp,Op.shift,Int.not_lt.2 hb];done))
    | (refine ⟨_,?_, .bool _,rfl,by simp⟩;first
        | (simp [binOp,Op.intCmp];done)
        | (simp [binOp,Op.stringOp];done))
    | (refine ⟨_,?_, .str _,rfl,by simp⟩
       rename_i x y hb
       simp only [maxLen] at hb
       have : ¬ (((x.size + y.size:Nat):Int) > IntKind.i64.max):=fun h=>by
         simp only [IntKind.max,IntKind.signed,IntKind.bits] at h
         have h':=h
         simp at h'
         omega
       simp only [binOp,Op.stringOp]
       rw [if_neg this]
       rfl)
inductive UnR:UnOp→AV→AV→Prop
  | neg {k a}:UnR .neg (.int k a) (.int k (k.wrap (0 - a)))
  | xor {k a}:UnR .xor (.int k a) (.int k (bits .xor k (if k.signed then -1 else k.max) a))
  | not {b}:UnR .not (.bool b) (.bool (!b))
theorem UnR.run {P:Program} {I:Nat→Prop} {w:World} {B:Nat→Blk} {m:Nat→Reg} {op:UnOp} {x r:AV} {X:Value} (h:UnR op x r)
    (hx:VR I w B m x X) : ∃ V,(Op.unary op X).run P w = .ok V w∧VR I w B m r V:=by
  cases h <;> cases hx
  · exact ⟨_,by simp [Op.unary,Op.intArith], .int _ _⟩
  · exact ⟨_,by simp [Op.unary,Op.intBits,bits], .int _ _⟩
  · exact ⟨_,by simp [Op.unary], .bool _⟩
inductive PutL:List AV→Nat→List AV→List AV→Prop
  | skip {c cs o vs r}:PutL cs o vs r→PutL (c :: cs) (o + 1) vs (c :: r)
  | put {c cs v vs r}:PutL cs 0 vs r→PutL (c :: cs) 0 (v :: vs) (v :: r)
  | done {cs}:PutL cs 0 [] cs
theorem PutL.spec {cs:List AV} {o:Nat} {vs r:List AV} (h:PutL cs o vs r):r.length=cs.length∧o + vs.length≤cs.length ∧
    ∀ x,r.getD x .bad=if o≤x∧x < o + vs.length then vs.getD (x - o) .bad else cs.getD x .bad:=by
  induction h with
  | @skip c cs o vs r _ ih =>
    obtain ⟨h1,h2,h3⟩:=ih
    refine ⟨by simp [h1],by simp;omega,fun x=>?_⟩
    cases x with
    | zero=>simp
    | succ x =>
      have:=h3 x
      simp only [List.getD_cons_succ,this]
      by_cases hx:o≤x∧x < o + vs.length
      · rw [if_pos hx,if_pos (by omega)];congr 1;omega
      · rw [if_neg hx,if_neg (by omega)]
  | @put c cs v vs r _ ih =>
    obtain ⟨h1,h2,h3⟩:=ih
    refine ⟨by simp [h1],by simp;omega,fun x=>?_⟩
    cases x with
    | zero=>simp
    | succ x =>
      have:=h3 x
      simp only [List.getD_cons_succ,this,List.length_cons]
      by_cases hx:x < vs.length
      · rw [if_pos (by omega),if_pos (by omega)];simp
      · rw [if_neg (by omega),if_neg (by omega)]
  | @done cs=>exact ⟨rfl,by simp,fun x=>by rw [if_neg (by simp)]⟩
theorem put_spec (off:Nat) : ∀ (l:List Value) (k:Nat) (cells:Array Value),off + k + l.length≤cells.size →
    ((l.zipIdx k).foldl (fun cs (x:Value×Nat)=>cs.setIfInBounds (off + x.2) x.1) cells).size=cells.size ∧
    ∀ x,((l.zipIdx k).foldl (fun cs (x:Value×Nat)=>cs.setIfInBounds (off + x.2) x.1) cells)[x]?=if off + k≤x∧x < off + k + l.length then l[x - (off + k)]? else cells[x]?
  | [],k,cells,h=>⟨rfl,fun x=>by rw [if_neg (by simp)];rfl⟩
  | v :: l,k,cells,h=>by
    simp only [List.zipIdx_cons,List.foldl_cons]
    obtain ⟨h1,h2⟩:=put_spec off l (k + 1) (cells.setIfInBounds (off + k) v) (by simp at h ⊢;omega)
    refine ⟨by rw [h1];simp,fun x=>?_⟩
    rw [h2 x]
    simp only [List.length_cons] at h ⊢
    by_cases hx:x=off + k
    · subst hx
      rw [if_neg (by omega),if_pos (by omega)]
      rw [Array.getElem?_setIfInBounds_self]
      simp
      omega
    · by_cases hy:off + (k + 1)≤x∧x < off + (k + 1) + l.length
      · rw [if_pos hy,if_pos (by omega)]
        rw [show x - (off + k)=(x - (off + (k + 1))) + 1 by omega,List.getElem?_cons_succ]
      · rw [if_neg hy,if_neg (by omega),Array.getElem?_setIfInBounds_ne (by omega)]
theorem put_arr (off:Nat) (cs cells:Array Value) (h:off + cs.size≤cells.size) :
    (cs.zipIdx.foldl (fun xs (x:Value×Nat)=>xs.setIfInBounds (off + x.2) x.1) cells).size=cells.size ∧
    ∀ x,(cs.zipIdx.foldl (fun xs (x:Value×Nat)=>xs.setIfInBounds (off + x.2) x.1) cells)[x]?=if off≤x∧x < off + cs.size then cs[x - off]? else cells[x]?:=by
  have:=put_spec off cs.toList 0 cells (by simpa using h)
  rw [← Array.foldl_toList,Array.toList_zipIdx]
  simpa using this
def VL (I:Nat→Prop) (w:World) (B:Nat→Blk) (m:Nat→Reg) (cs:List AV) (vs:Array Value):Prop :=
  cs.length=vs.size∧(∀ u ∈ vs.toList,u.oneCell'=true)∧∀ i,i < cs.length→VR I w B m (cs.getD i .bad) (vs.getD i undef)
theorem VL.agg {I:Nat→Prop} {w:World} {B:Nat→Blk} {m:Nat→Reg} {cs:List AV} {vs:Array Value} (h:VL I w B m cs vs):VR I w B m (.agg cs) (.agg vs):=.agg cs vs h.1 h.2.1 h.2.2
def AV.inVar:AV→Bool
  | .tup _ | .nob _ | .bad=>false
  | _=>true
theorem VR.vl {I:Nat→Prop} {w:World} {B:Nat→Blk} {m:Nat→Reg} {v:AV} {V:Value} (h:VR I w B m v V) (hv:v.inVar=true):VL I w B m v.cells V.cells:=by
  by_cases h1:v.one=true
  · obtain ⟨k1,k2⟩:=h.one h1
    have:v.cells = [v]:=by cases v <;> simp [AV.one] at h1 <;> rfl
    rw [this,k2]
    refine ⟨rfl,fun u hu=>?_,fun i hi=>?_⟩
    · simp at hu;subst hu;exact k1
    · have:i=0:=by simp at hi;omega
      subst this
      exact h
  · cases v <;> simp [AV.one] at h1 <;> simp [AV.inVar] at hv
    obtain ⟨vs,rfl,h2,h3,h4⟩:=h.cell
    exact ⟨h2,h3,h4⟩
theorem mem_of_getElem?_arr {xs:Array Value} {i:Nat} {u:Value} (h:xs[i]?=some u):u ∈ xs.toList:=by
  rw [← Array.getElem?_toList] at h
  exact List.mem_of_getElem? h
theorem VL.put {I:Nat→Prop} {w:World} {B:Nat→Blk} {m:Nat→Reg} {cs ps r:List AV} {vs us rs:Array Value} {o:Nat} (h:VL I w B m cs vs) (hp:VL I w B m ps us) (hr:PutL cs o ps r)
    (hs:rs.size=vs.size) (hx : ∀ x,rs[x]?=if o≤x∧x < o + us.size then us[x - o]? else vs[x]?):VL I w B m r rs:=by
  obtain ⟨h1,h2,h3⟩:=hr.spec
  refine ⟨by rw [h1,h.1,hs],fun u hu=>?_,fun i hi=>?_⟩
  · obtain ⟨i,hi,e⟩:=List.getElem_of_mem hu
    have e':rs[i]?=some u:=by rw [← Array.getElem?_toList,List.getElem?_eq_getElem hi,e]
    rw [hx i] at e'
    split at e'
    · exact hp.2.1 u (mem_of_getElem?_arr e')
    · exact h.2.1 u (mem_of_getElem?_arr e')
  · rw [h3 i,Array.getD_eq_getD_getElem?,hx i]
    have e:=hp.1
    by_cases hc:o≤i∧i < o + ps.length
    · rw [if_pos hc,if_pos (by omega),← Array.getD_eq_getD_getElem?]
      exact hp.2.2 _ (by omega)
    · rw [if_neg hc,if_neg (by omega),← Array.getD_eq_getD_getElem?]
      exact h.2.2 _ (by omega)
inductive BuildR (st:St) (fs:List (Nat×TypeId×Nat)):List (Nat×Operand)→List AV→List AV→Prop
  | nil {cs}:BuildR st fs [] cs cs
  | cons {i x v off ft sz rest cs cs' r}:Ev st x v→v.inVar=true→fs[i]?=some (off,ft,sz)→v.cells.length=sz→PutL cs off v.cells cs'→BuildR st fs rest cs' r→BuildR st fs ((i,x) :: rest) cs r
theorem fill_build {P:Program} {c:Ctx P} {I:Nat→Prop} {m:Nat→Reg} {w:World} {st:St} {a:Act} (hs:SRx c I m st a w) {fs:List (Nat×TypeId×Nat)} {place:Nat→Option (Nat×Nat)}
    (hpl : ∀ i off ft sz,fs[i]?=some (off,ft,sz)→place i=some (off,sz)) {parts:List (Nat×Operand)} {cs r:List AV} (h:BuildR st fs parts cs r) :
    ∀ {vs:Array Value},VL I w st.b m cs vs→∃ rs,Instr.fill place vs (parts.map fun p=>(p.1,a.eval p.2))=some rs∧VL I w st.b m r rs:=by
  induction h with
  | nil=>intro vs hv;exact ⟨vs,rfl,hv⟩
  | @cons i x v off ft sz rest cs cs' r hx hiv hf hl hp _ ih =>
    intro vs hv
    have hV:=(hx.vr hs).vl hiv
    obtain ⟨p1,p2,p3⟩:=hp.spec
    have hle:off + (a.eval x).cells.size≤vs.size:=by rw [← hV.1,← hv.1];exact p2
    obtain ⟨q1,q2⟩:=put_arr off (a.eval x).cells vs hle
    obtain ⟨rs,k1,k2⟩:=ih (hv.put hV hp q1 q2)
    refine ⟨rs,?_,k2⟩
    simp only [List.map_cons,Instr.fill,hpl i off ft sz hf]
    have c1:(a.eval x).cells.size=sz:=by rw [← hV.1,hl]
    rw [c1] at hle
    rw [if_neg (by simp [c1];omega)]
    exact k1
inductive PartsR (st:St):Nat→List (Nat×Operand)→List AV→Prop
  | nil {i}:PartsR st i [] []
  | cons {i x v rest vs}:Ev st x v→v.inVar=true→PartsR st (i + 1) rest vs→PartsR st i ((i,x) :: rest) (v :: vs)
theorem PartsR.spec {P:Program} {c:Ctx P} {I:Nat→Prop} {m:Nat→Reg} {w:World} {st:St} {a:Act} (hs:SRx c I m st a w) {i0:Nat} {parts:List (Nat×Operand)} {vs:List AV} (h:PartsR st i0 parts vs) :
    ∃ Vs:List Value,parts.map (fun p=>(p.1,a.eval p.2))=(Vs.zipIdx i0).map (fun x=>(x.2,x.1))∧Vs.length=vs.length ∧
      ∀ i,i < vs.length→VR I w st.b m (vs.getD i .bad) (Vs.getD i undef)∧(vs.getD i .bad).inVar=true:=by
  induction h with
  | nil=>exact ⟨[],rfl,rfl,fun i hi=>absurd hi (Nat.not_lt_zero i)⟩
  | @cons i x v rest vs hx hv _ ih =>
    obtain ⟨Vs,h1,h2,h3⟩:=ih
    refine ⟨a.eval x :: Vs,by simp [h1],by simp [h2],fun j hj=>?_⟩
    cases j with
    | zero=>exact ⟨hx.vr hs,hv⟩
    | succ j=>exact h3 j (by simpa using hj)
inductive RowIs:Row→List AV→Prop
  | ints {k l}:RowIs (.ints k l) (l.map (AV.int k))
  | vals {es}:RowIs (.vals es) es
theorem RowIs.spec {r:Row} {es:List AV} (h:RowIs r es):r.len=es.length∧∀ i,i < es.length→r.get i=es.getD i .bad:=by
  cases h with
  | @ints k l =>
    refine ⟨by simp [Row.len],fun i hi=>?_⟩
    have hi':i < l.length:=by simpa using hi
    simp [Row.get,List.getD,hi']
  | vals=>exact ⟨rfl,fun i hi=>rfl⟩
theorem flat_get {sz:Nat} : ∀ (Vs:List Value),(∀ v ∈ Vs,v.cells.size=sz)→∀ i j,i < Vs.length→j < sz→(Vs.flatMap fun v=>v.cells.toList)[i * sz + j]?=(Vs.getD i undef).cells[j]?
  | [],_,i,j,hi,_=>absurd hi (Nat.not_lt_zero i)
  | v :: Vs,h,i,j,hi,hj=>by
    have hv:v.cells.size=sz:=h v (by simp)
    simp only [List.flatMap_cons]
    cases i with
    | zero =>
      rw [List.getElem?_append_left (by simp [hv];omega)]
      simp
    | succ i =>
      rw [List.getElem?_append_right (by simp [hv];rw [Nat.add_mul];omega)]
      have:=flat_get Vs (fun u hu=>h u (by simp [hu])) i j (by simpa using hi) hj
      simp only [List.getD_cons_succ,Array.length_toList,hv]
      rw [← this]
      congr 1
      rw [Nat.add_mul]
      omega
theorem flat_len {sz:Nat} : ∀ (Vs:List Value),(∀ v ∈ Vs,v.cells.size=sz)→(Vs.flatMap fun v=>v.cells.toList).length=Vs.length * sz
  | [],_=>by simp
  | v :: Vs,h=>by
    simp only [List.flatMap_cons,List.length_append,List.length_cons,Array.length_toList,h v (by simp),flat_len Vs fun u hu=>h u (by simp [hu])]
    rw [Nat.add_mul]
    omega
theorem made_get {z:Array Value} {n x:Nat} (h:x < n) (hz:0 < z.size):(madeCells z n)[x]?=z[x % z.size]?:=by
  have:x % z.size < z.size:=Nat.mod_lt _ hz
  simp [madeCells,h,this]
end Go.AVL
end

section
namespace Go.AVL
open Go.RowKit
set_option linter.unusedVariables false
set_option linter.unusedSimpArgs false
def bt (s:ByteArray) (i:Nat):Int:=if h:i < s.size then ((s[i]'h).toNat:Int) else 0
inductive Bd (st:St):Option Operand→Nat→Nat→Prop
  | no {d}:Bd st none d d
  | yes {x k n d}:Ev st x (.int k n)→0≤n→Bd st (some x) d n.toNat
inductive Mx (st:St) (b len:Nat):Option Operand→Option Operand→Prop
  | no {hi}:Mx st b len hi none
  | yes {h x k n}:Ev st x (.int k n)→0≤n→b≤n.toNat→n.toNat≤len→Mx st b len (some h) (some x)
def RowCl:Row→Prop
  | .ints _ _=>True
  | .vals es=>ClL es
def RowFlat:Row→Prop
  | .ints _ _=>True
  | .vals es=>∀ i,i < es.length→Flat (es.getD i .bad)
def szOk (n:Nat) (v:AV):Prop:=v.cells.length=n∧v.isBad=false
inductive Pu (P:Program) (st:St) (d:Nat):Op→AV→Option Blk→List Nat→Prop
  | move {x v}:Ev st x v→Pu P st d (.move x) v none []
  | assign {x v}:Ev st x v→Pu P st d (.assign x) v none []
  | pickT {x y z v}:Ev st x (.bool true)→Ev st y v→Pu P st d (.pick x y z) v none []
  | pickF {x y z v}:Ev st x (.bool false)→Ev st z v→Pu P st d (.pick x y z) v none []
  | pickB {x y z b p q}:Ev st x (.bool b)→Ev st y (.bool p)→Ev st z (.bool q)→Pu P st d (.pick x y z) (.bool (bif b then p else q)) none []
  | alloc {e i} [h:TI P e i]:Pu P st d (.alloc e) (.op d ((st.b d).ver + 1) 0 0) (some ⟨(st.b d).ver + 1, .own, .vals [i.zeroV],e⟩) []
  | box {e i x v} [h:TI P e i]:Ev st x v→v.inVar=true→v.cells.length=i.size→Pu P st d (.box e x) (.op d ((st.b d).ver + 1) 0 0) (some ⟨(st.b d).ver + 1, .own, .vals [v],e⟩) []
  | load {t i x s u j o v} [h:TI P t i]:Ev st x (.op s u j o)→(st.b s).ver=u→(st.b s).mode≠.dead→Part i.agg i.size o ((st.b s).row.get j) v→Pu P st d (.load t x) v none [s]
  | loadR {t i x v o r} [h:TI P t i]:Ev st x (.fp v o)→Part i.agg i.size o v r→Pu P st d (.load t x) r none []
  | fieldA {t i x s u j o f fs off ft sz o'} [h:TI P t i]:i.d = .st fs→fs[f]?=some (off,ft,sz)→sz≠0→Ev st x (.op s u j o)→o'=o + off→Pu P st d (.fieldAddr t x f) (.op s u j o') none []
  | fieldR {t i x v o f fs off ft sz o'} [h:TI P t i]:i.d = .st fs→fs[f]?=some (off,ft,sz)→sz≠0→Ev st x (.fp v o)→o'=o + off→Pu P st d (.fieldAddr t x f) (.fp v o') none []
  | indexI {t i e ie x y k l k' n} [h:TI P t i] [h':TI P e ie]:i.d = .sl e→ie.size=1→Ev st x (.fi k l)→Ev st y (.int k' n)→0≤n→n < (l.length:Int)→Pu P st d (.indexAddr t x y) (.fp (.int k (l.getD n.toNat 0)) 0) none []
  | indexV {t i e ie x y es k' n} [h:TI P t i] [h':TI P e ie]:i.d = .sl e→szOk ie.size (es.getD n.toNat .bad)→Ev st x (.fv es)→Ev st y (.int k' n)→0≤n→n < (es.length:Int)→Pu P st d (.indexAddr t x y) (.fp (es.getD n.toNat .bad) 0) none []
  | indexO {t i e ie x y s u off len full k' n j} [h:TI P t i] [h':TI P e ie]:i.d = .sl e→Ev st x (.os s u off len full)→(st.b s).ver=u→(st.b s).mode≠.dead→Ev st y (.int k' n)→0≤n→n < (len:Int) →
      j=off + n.toNat→szOk ie.size ((st.b s).row.get j)→Pu P st d (.indexAddr t x y) (.op s u j 0) none [s]
  | sliceI {t i e ie x k l lo hi mx a b r} [h:TI P t i] [h':TI P e ie]:i.d = .sl e→ie.size=1→Ev st x (.fi k l)→Bd st lo 0 a→Bd st hi l.length b→Mx st b l.length hi mx→a≤b→b≤l.length→r=(l.take b).drop a →
      Pu P st d (.slice t x lo hi mx) (.fi k r) none []
  | sliceV {t i e ie x es lo hi mx a b r} [h:TI P t i] [h':TI P e ie]:i.d = .sl e→(a=0∨szOk ie.size (es.getD 0 .bad))→Ev st x (.fv es)→Bd st lo 0 a→Bd st hi es.length b→Mx st b es.length hi mx→a≤b→b≤es.length→r=(es.take b).drop a →
      Pu P st d (.slice t x lo hi mx) (.fv r) none []
  | sliceO {t i e ie x s u off len full lo hi mx a b off' len'} [h:TI P t i] [h':TI P e ie]:i.d = .sl e→Ev st x (.os s u off len full)→(st.b s).ver=u→(st.b s).mode≠.dead→(a=0∨szOk ie.size ((st.b s).row.get 0)) →
      Bd st lo 0 a→Bd st hi len b→Mx st b len hi mx→a≤b→b≤len→off'=off + a→len'=b - a→Pu P st d (.slice t x lo hi mx) (.os s u off' len' false) none [s]
  | ext {op v R}:(∀ st':St,(∀ x ∈ op.operands.toList,∀ u,Ev st x u→Ev st' x u)→(∀ s ∈ R,st'.b s=st.b s)→∀ (c:Ctx P) (I:Nat→Prop) (m:Nat→Reg) (a:Act) (w:World) (o:Oper),o.op=op→SRx c I m st' a w →
      ∃ V,(execOp a.eval o).run P w = .ok (.value V) w∧VR I w st'.b m v V)→Pu P st d op v none R
  | sliceS {t i x s lo hi a b} [h:TI P t i]:i.d = .str→Ev st x (.str s)→Bd st lo 0 a→Bd st hi s.size b→a≤b→b≤s.size→Pu P st d (.slice t x lo hi none) (.str (s.extract a b)) none []
  | indexS {t i x y s k n} [h:TI P t i]:i.d = .str→Ev st x (.str s)→Ev st y (.int k n)→0≤n→n < (s.size:Int)→Pu P st d (.index t x y) (.int .u8 (bt s n.toNat)) none []
  | build {t i fs parts r} [h:TI P t i]:i.d = .st fs→BuildR st fs parts.toList i.zero r→Pu P st d (.build t parts) (.agg r) none []
  | litO {t i e ie len parts vs row} [h:TI P t i] [h':TI P e ie]:i.d = .sl e→PartsR st 0 parts.toList vs→len=vs.length→len * ie.size≤16777216→0 < ie.size→(∀ j,j < vs.length→(vs.getD j .bad).cells.length=ie.size)→RowIs row vs →
      Pu P st d (.buildSlice t len parts) (.os d ((st.b d).ver + 1) 0 len true) (some ⟨(st.b d).ver + 1, .own,row,e⟩) []
  | extract {x vs i v}:Ev st x (.tup vs)→vs[i]?=some v→Pu P st d (.extract x i) v none []
  | bin {op t x y v u r t'}:Ev st x v→Ev st y u→BinR P op t v u r→Pu P st d (.binOp op t x y t') r none []
  | un {op t x v r}:Ev st x v→UnR op v r→Pu P st d (.unOp op t x) r none []
  | convI {s t i j x k k' n} [h:TI P s i] [h':TI P t j]:j.d = .int k'→Ev st x (.int k n)→Pu P st d (.convert s t x) (.int k' (k'.wrap n)) none []
  | convS {s t i j x b} [h:TI P s i] [h':TI P t j]:i.d = .str→j.d = .str→Ev st x (.str b)→Pu P st d (.convert s t x) (.str b) none []
  | lenI {t i e x k l} [h:TI P t i]:i.d = .sl e→Ev st x (.fi k l)→Pu P st d (.call ⟨.builtin .len,#[x],#[t]⟩) (.int .i64 l.length) none []
  | lenV {t i e x es} [h:TI P t i]:i.d = .sl e→Ev st x (.fv es)→Pu P st d (.call ⟨.builtin .len,#[x],#[t]⟩) (.int .i64 es.length) none []
  | lenO {t i e x s u off len full} [h:TI P t i]:i.d = .sl e→Ev st x (.os s u off len full)→Pu P st d (.call ⟨.builtin .len,#[x],#[t]⟩) (.int .i64 len) none []
  | lenS {t i x s} [h:TI P t i]:i.d = .str→Ev st x (.str s)→Pu P st d (.call ⟨.builtin .len,#[x],#[t]⟩) (.int .i64 s.size) none []
  | max {x y k k' p q ts}:Ev st x (.int k p)→Ev st y (.int k' q)→Pu P st d (.call ⟨.builtin .max,#[x,y],ts⟩) (.int k (if q > p then q else p)) none []
  | min {x y k k' p q ts}:Ev st x (.int k p)→Ev st y (.int k' q)→Pu P st d (.call ⟨.builtin .min,#[x,y],ts⟩) (.int k (if q < p then q else p)) none []
  | nilC {x s u j o}:Ev st x (.op s u j o)→Pu P st d (.nilCheck x) (.op s u j o) none []
  | nilCR {x v o}:Ev st x (.fp v o)→Pu P st d (.nilCheck x) (.fp v o) none []
  | makeI {t i e ie x y k k' kk p q} [h:TI P t i] [h':TI P e ie]:i.d = .sl e→ie.d = .int kk→Ev st x (.int k p)→Ev st y (.int k' q)→0≤p→p≤q→ie.bytes * q.toNat≤281474976710656→q≤9223372036854775807 →
      Pu P st d (.makeSlice t x y) (.os d ((st.b d).ver + 1) 0 p.toNat true) (some ⟨(st.b d).ver + 1, .own, .ints kk (List.replicate p.toNat 0),e⟩) []
  | makeV {t i e ie x y k k' p q} [h:TI P t i] [h':TI P e ie]:i.d = .sl e→0 < ie.size→Ev st x (.int k p)→Ev st y (.int k' q)→0≤p→p≤q→ie.bytes * q.toNat≤281474976710656→q≤9223372036854775807 →
      Pu P st d (.makeSlice t x y) (.os d ((st.b d).ver + 1) 0 p.toNat true) (some ⟨(st.b d).ver + 1, .own, .vals (List.replicate p.toNat ie.zeroV),e⟩) []
  | call {x args ats f caps vs as res ss}:Ev st x (.fn f caps)→EvL st args.toList vs→SnapL st ss (vs ++ caps) as→CS P f as .no res→(ss = []∨Flat (AV.mk res))→Cl (AV.mk res) →
      Pu P st d (.call ⟨.value x,args,ats⟩) (AV.mk res) none ss
  | callN {x args ats f caps vs as res ss}:Ev st x (.fn f caps)→EvL st args.toList vs→SnapL st ss (vs ++ caps) as→CS P f as .no res→NoI P st ss→Sh (AV.mk res) →
      Pu P st d (.call ⟨.value x,args,ats⟩) (AV.mk res) none ss
  | callF {x args ats f caps vs as row e ss} (pre post:List AV):Ev st x (.fn f caps)→EvL st args.toList vs→SnapL st ss (vs ++ caps) as→CS P f as ⟨none,some (row,e)⟩ (pre ++ .os FRS 1 0 row.len true :: post)→RowCl row→(ss = []∨RowFlat row) →
      FlL pre→FlL post→Pu P st d (.call ⟨.value x,args,ats⟩) (AV.mk (pre ++ .os d ((st.b d).ver + 1) 0 row.len true :: post)) (some ⟨(st.b d).ver + 1, .own,row,e⟩) ss
def St.putob (st:St) (d:Nat):Option Blk→St
  | some b=>st.putb d b
  | none=>st
section
variable {P : Program} {c : Ctx P} {I : Nat → Prop} {m : Nat → Reg} {w w' : World} {st : St} {a : Act}
def Gives (P:Program) (c:Ctx P) (st':St) (v:AV) (o:Oper) (a:Act) (w:World):Prop :=
  ∀ (K:Act→World→Prop) (Q:Exit→Act→World→Prop),(∀ V w' I' m',SRx c I' m' st' a w'→VR I' w' st'.b m' v V→K (a.put o.dst V) w')→o.wp P a w K Q
theorem gives_value {o:Oper} {v:AV} {V:Value} (h:SRx c I m st a w) (hr:(execOp a.eval o).run P w = .ok (.value V) w) (hv:VR I w st.b m v V):Gives P c st v o a w:=by
  intro K Q hK
  unfold Oper.wp
  rw [hr]
  exact hK V w I m h hv
theorem SRx.newRow (h:SRx c I m st a w) {d:Nat} {cur:Array Value} {e:TypeId} {row:Row} {cap sz:Nat} (hc:cur.size=cap * sz) (hl:row.len≤cap) (hm:cap≤maxLen) (hsz:sz=P.cellsOf e)
    (hrow:RowR I w st.b m row cur 0 sz) (hsp:Sp P ⟨(st.b d).ver + 1, .own,row,e⟩ ⟨w.heap.size,0,cap,sz⟩ cur) :
    SRx c I (upd m d ⟨w.heap.size,0,cap,sz⟩) (st.putb d ⟨(st.b d).ver + 1, .own,row,e⟩) a (w.alloc (.cells cur e)):=by
  have hb:Below w.heap.size w (w.alloc (.cells cur e)):=(Below.refl w.heap.size w).alloc (Nat.le_refl _) _
  refine (h.grow hb).slot (Nat.lt_succ_self _) (fun _=>.inr ⟨cur,heap_alloc_new w _,hrow.mono fun v V hv=>h.wr.keep hb hv,?_⟩) fun _ s hs ha=>?_
  · exact ⟨⟨hsp,hsz⟩,(by show cur.size=(0 + cap) * sz;rw [Nat.zero_add];exact hc),hl,hm,fun hi=>Nat.lt_irrefl _ (h.wr.imm _ hi).1,h.wr.size⟩
  · exact Nat.ne_of_lt (h.wr.own_lt ha)
theorem VR.newOs {B:Nat→Blk} {d:Nat} {row:Row} {e:TypeId} {cap sz:Nat} (g u:Nat) (hl:row.len≤cap) :
    VR I w (upd B d ⟨u, .own,row,e⟩) (upd m d ⟨g,0,cap,sz⟩) (.os d u 0 row.len true) (.slice (some ⟨g,0,none⟩) row.len cap):=by
  refine .os d u 0 row.len true _ cap ?_ ?_
  · rw [upd_same];exact Nat.le_refl _
  · rw [upd_same,upd_same]
    intro _ _
    exact ⟨by simp,hl, .inr (by simp),fun _=>⟨rfl,rfl,rfl⟩⟩
theorem VR.newOp {B:Nat→Blk} {d:Nat} {v:AV} {e:TypeId} {cap sz:Nat} (g u:Nat) :
    VR I w (upd B d ⟨u, .own, .vals [v],e⟩) (upd m d ⟨g,0,cap,sz⟩) (.op d u 0 0) (.pointer (some ⟨g,0,none⟩)):=by
  refine .op d u 0 0 _ ?_ ?_
  · rw [upd_same];exact Nat.le_refl _
  · rw [upd_same,upd_same]
    intro _ _
    exact ⟨by simp,Nat.zero_lt_one⟩
theorem VR.op_inv {B:Nat→Blk} {s u i off:Nat} {V:Value} (h:VR I w B m (.op s u i off) V) : ∃ ad,V = .pointer (some ad)∧u≤(B s).ver ∧
    ((B s).ver=u→(B s).mode≠.dead→ad=⟨(m s).g,((m s).base + i) * (m s).sz + off,none⟩∧i < (B s).row.len):=by
  cases h with
  | op _ _ _ _ ad h1 h2=>exact ⟨ad,rfl,h1,h2⟩
theorem VR.os_inv {B:Nat→Blk} {s u off len:Nat} {full:Bool} {V:Value} (h:VR I w B m (.os s u off len full) V) : ∃ ad cap,V = .slice ad len cap∧u≤(B s).ver ∧
    ((B s).ver=u→(B s).mode≠.dead→off + len≤(B s).row.len∧len≤cap ∧
        (cap=0∨ad=some ⟨(m s).g,((m s).base + off) * (m s).sz,none⟩)∧(full=true→off=0∧cap=(m s).cap∧(m s).base=0)):=by
  cases h with
  | os _ _ _ _ _ ad cap h1 h2=>exact ⟨ad,cap,rfl,h1,h2⟩
theorem Bd.run {lo:Option Operand} {dflt n y:Nat} (hs:SRx c I m st a w) (h:Bd st lo dflt n) (hn:n≤y) (code:BoundsCode) :
    (match lo.map a.eval with|some v=>(Instr.sliceBound v y code).run P w = .ok n w|none=>n=dflt):=by
  cases h with
  | no=>rfl
  | @yes x k n d hx h0 =>
    have:=hx.vr hs
    simp only [Option.map_some]
    generalize a.eval x=X at this
    cases this
    have h1:0≤n∧n≤(y:Int):=⟨h0,by omega⟩
    simp [Instr.sliceBound,asIntOf,h1]
theorem run_bounds {lo hi mx:Option Operand} {x y len cap mm:Nat} {isS:Bool} (hs:SRx c I m st a w) (hlo:Bd st lo 0 x) (hhi:Bd st hi len y) (hx:x≤y) (hlen:y≤cap)
    (hmx:(mx=none∧mm=cap)∨(∃ q k n h,mx=some q∧hi=some h∧Ev st q (.int k n)∧0≤n∧n.toNat=mm∧y≤mm∧mm≤cap)) :
    (Instr.sliceBounds isS len cap (lo.map a.eval) (hi.map a.eval) (mx.map a.eval)).run P w = .ok (x,y,mm) w:=by
  have l1:=fun code=>hlo.run (P:=P) hs (y:=y) hx code
  rcases hmx with ⟨rfl,rfl⟩|⟨q,k,n,hq,rfl,rfl,he,h0,rfl,hy,hc⟩
  · have l2:=fun code=>hhi.run (P:=P) hs (y:=mm) hlen code
    cases hi <;> cases lo <;> simp only [Option.map_some,Option.map_none] at l1 l2 ⊢ <;> first
      | (obtain rfl:=l1 .index;obtain rfl:=l2 .index;simp [Instr.sliceBounds];done)
      | (obtain rfl:=l2 .index;simp [Instr.sliceBounds,l1];done)
      | (obtain rfl:=l1 .index;simp [Instr.sliceBounds,l2];done)
      | (simp [Instr.sliceBounds,l1,l2];done)
  · have hV:=he.vr hs
    have l2:=fun code=>hhi.run (P:=P) hs (y:=n.toNat) hy code
    simp only [Option.map_some] at l2 ⊢
    generalize a.eval q=X at hV
    cases hV
    have l3 : ∀ code,(Instr.sliceBound (.int k n) cap code).run P w = .ok n.toNat w:=fun code=>by
      have h1:0≤n∧n≤(cap:Int):=⟨h0,by omega⟩
      simp [Instr.sliceBound,asIntOf,h1]
    cases lo <;> simp only [Option.map_some,Option.map_none] at l1 ⊢ <;> first
      | (obtain rfl:=l1 .index;simp [Instr.sliceBounds,l2,l3];done)
      | (simp [Instr.sliceBounds,l1,l2,l3];done)
theorem Mx.spec {b len cap:Nat} {hi mx:Option Operand} (h:Mx st b len hi mx) (hb:b≤len) (hc:len≤cap) :
    ∃ mm,b≤mm∧mm≤cap∧((mx=none∧mm=cap)∨(∃ q k n h,mx=some q∧hi=some h∧Ev st q (.int k n)∧0≤n∧n.toNat=mm∧b≤mm∧mm≤cap)):=by
  cases h with
  | no=>exact ⟨cap,by omega,Nat.le_refl _, .inl ⟨rfl,rfl⟩⟩
  | @yes h x k n he h0 h1 h2=>exact ⟨n.toNat,h1,by omega, .inr ⟨x,k,n,h,rfl,rfl,he,h0,rfl,h1,by omega⟩⟩
end
end Go.AVL
end

section
namespace Go.AVL
open Go.RowKit
set_option linter.unusedVariables false
set_option linter.unusedSimpArgs false
section
variable {P : Program} {c : Ctx P} {I : Nat → Prop} {m : Nat → Reg} {w w' : World} {st : St} {a : Act} {B : Nat → Blk}
theorem VR.int_inv {k:IntKind} {n:Int} {V:Value} (h:VR I w B m (.int k n) V):V = .int k n:=by cases h;rfl
theorem VR.bool_inv {b:Bool} {V:Value} (h:VR I w B m (.bool b) V):V = .bool b:=by cases h;rfl
theorem VR.str_inv {b:ByteArray} {V:Value} (h:VR I w B m (.str b) V):V = .string b:=by cases h;rfl
theorem VR.fp_inv {v:AV} {off:Nat} {V:Value} (h:VR I w B m (.fp v off) V) : ∃ V' b o,V = .pointer (some ⟨b,o + off,none⟩)∧VR I w B m v V'∧I b∧(∀ u ∈ V'.cells.toList,u.oneCell'=true)∧Var w b o V':=by
  cases h with
  | fp _ _ V' b o h1 h2 h3 h4=>exact ⟨V',b,o,rfl,h1,h2,h3,h4⟩
theorem VR.fi_inv {k:IntKind} {l:List Int} {V:Value} (h:VR I w B m (.fi k l) V) : ∃ ad cap,V = .slice ad l.length cap∧l.length≤cap ∧
    ∀ i,i < l.length→∃ x:Addr,ad=some x∧x.spot=none∧I x.block∧w.cell? ⟨x.block,x.off + i,none⟩=some (.int k (l.getD i 0)):=by
  cases h with
  | fi _ _ ad cap h1 h2=>exact ⟨ad,cap,rfl,h1,h2⟩
theorem VR.fv_inv {es:List AV} {V:Value} (h:VR I w B m (.fv es) V) : ∃ ad cap sz,∃ U:Nat→Value,V = .slice ad es.length cap∧es.length≤cap∧(∀ i,i < es.length→VR I w B m (es.getD i .bad) (U i)) ∧
    ∀ i,i < es.length→(U i).cells.size=sz∧(∀ u ∈ (U i).cells.toList,u.oneCell'=true)∧∃ x:Addr,ad=some x∧x.spot=none∧I x.block∧∀ j,j < sz→w.cell? ⟨x.block,x.off + i * sz + j,none⟩=(U i).cells[j]?:=by
  cases h with
  | fv _ ad cap sz U h1 h2 h3=>exact ⟨ad,cap,sz,U,rfl,h1,h2,h3⟩
theorem run_newVar {t:TypeId} {v:Value} (w:World):(newVar t v).run P w = .ok ⟨w.heap.size,0,none⟩ (w.alloc (.cells v.cells t)):=by
  simp [newVar,Go.newRow]
theorem rowR_one {v:AV} {V:Value} (hv:VR I w B m v V) (h1 : ∀ u ∈ V.cells.toList,u.oneCell'=true):RowR I w B m (.vals [v]) V.cells 0 V.cells.size:=fun i hi=>by
  have:i=0:=by simp [Row.len] at hi;omega
  subst this
  exact ⟨V,hv,rfl,h1,fun j hj=>by simp⟩
theorem one_le_maxLen:1≤maxLen:=by simp [maxLen]
theorem gives_box (h:SRx c I m st a w) {o:Oper} {d:Nat} {e:TypeId} {v:AV} {V:Value} (hv:VR I w st.b m v V) (h1 : ∀ u ∈ V.cells.toList,u.oneCell'=true) (hsz:V.cells.size=P.cellsOf e)
    (hr:(execOp a.eval o).run P w = .ok (.value (.pointer (some ⟨w.heap.size,0,none⟩))) (w.alloc (.cells V.cells e))) :
    Gives P c (st.putb d ⟨(st.b d).ver + 1, .own, .vals [v],e⟩) (.op d ((st.b d).ver + 1) 0 0) o a w:=by
  intro K Q hK
  unfold Oper.wp
  rw [hr]
  exact hK _ _ I _ (h.newRow (cap:=1) (sz:=V.cells.size) (by simp) (Nat.le_refl _) one_le_maxLen hsz (rowR_one hv h1) (.full rfl (by show V.cells.size≤(0 + 1) * V.cells.size;omega))) (VR.newOp _ _)
theorem pu_alloc (h:SRx c I m st a w) {o:Oper} {d:Nat} {e:TypeId} {i:TInfo} (ht:TI P e i) (ho:o.op = .alloc e) :
    Gives P c (st.putb d ⟨(st.b d).ver + 1, .own, .vals [i.zeroV],e⟩) (.op d ((st.b d).ver + 1) 0 0) o a w:=by
  obtain ⟨inf,ds,z,F⟩:=ht.facts
  refine gives_box h (F.zvr _ _ _ _) F.zone (by rw [F.zsz,← F.size];simp [Program.cellsOf,F.info]) ?_
  simp [execOp,ho,Instr.alloc,zeroValue,typeInfo,F.info,F.zero,run_newVar]
theorem pu_box (h:SRx c I m st a w) {o:Oper} {d:Nat} {e:TypeId} {x:Operand} {v:AV} {i:TInfo} (ht:TI P e i) (hv:Ev st x v) (hi:v.inVar=true) (hl:v.cells.length=i.size) (ho:o.op = .box e x) :
    Gives P c (st.putb d ⟨(st.b d).ver + 1, .own, .vals [v],e⟩) (.op d ((st.b d).ver + 1) 0 0) o a w:=by
  obtain ⟨inf,ds,z,F⟩:=ht.facts
  refine gives_box h (hv.vr h) ((hv.vr h).vl hi).2.1 (by rw [← ((hv.vr h).vl hi).1,hl,← F.size];simp [Program.cellsOf,F.info]) ?_
  simp [execOp,ho,Instr.box,run_newVar]
theorem pu_load (h:SRx c I m st a w) {o:Oper} {t:TypeId} {i:TInfo} (ht:TI P t i) {x:Operand} {s u j off:Nat} {v:AV} (ho:o.op = .load t x) (hx:Ev st x (.op s u j off))
    (hu:(st.b s).ver=u) (hm:(st.b s).mode≠.dead) (hp:Part i.agg i.size off ((st.b s).row.get j) v):Gives P c st v o a w:=by
  obtain ⟨ad,e,_,k⟩:=(hx.vr h).op_inv
  obtain ⟨rfl,hj⟩:=k hu hm
  obtain ⟨V,h1,h2,h3,h4⟩:=h.wr.var hm hj
  obtain ⟨V',k1,k2⟩:=load_part (P:=P) ht h1 h2 h4 hp
  refine gives_value h (V:=V') ?_ k2
  simp [execOp,ho,e,k1]
theorem pu_loadR (h:SRx c I m st a w) {o:Oper} {t:TypeId} {i:TInfo} (ht:TI P t i) {x:Operand} {off:Nat} {v r:AV} (ho:o.op = .load t x) (hx:Ev st x (.fp v off))
    (hp:Part i.agg i.size off v r):Gives P c st r o a w:=by
  obtain ⟨V,b,q,e,h1,h2,h3,h4⟩:=(hx.vr h).fp_inv
  obtain ⟨V',k1,k2⟩:=load_part (P:=P) ht h1 h4 h3 hp
  refine gives_value h (V:=V') ?_ k2
  simp [execOp,ho,e,k1]
theorem run_fieldAt {t:TypeId} {i:TInfo} (ht:TI P t i) {fs:List (Nat×TypeId×Nat)} (hd:i.d = .st fs) {f off ft sz:Nat} (hf:fs[f]?=some (off,ft,sz)) (hs:sz≠0) (b q:Nat) (w:World) :
    (Instr.fieldAt t (.pointer (some ⟨b,q,none⟩)) f).run P w = .ok (.pointer (some ⟨b,q + off,none⟩)) w:=by
  obtain ⟨inf,ds,z,F⟩:=ht.facts
  obtain ⟨Fl,e1,e2⟩:=td_st (F.dd.symm.trans hd)
  have hu:=F.und
  rw [e1] at hu
  rw [e2,List.getElem?_map] at hf
  cases hg:Fl.toList[f]? with
  | none=>rw [hg] at hf;cases hf
  | some g =>
    rw [hg] at hf
    simp only [Option.map_some,Option.some.injEq,Prod.mk.injEq] at hf
    obtain ⟨rfl,rfl,rfl⟩:=hf
    have hg':Fl[f]?=some g:=by rw [← Array.getElem?_toList];exact hg
    have hok:=F.fok
    rw [e1] at hok
    simp only [fok,List.all_eq_true] at hok
    have:=hok g (List.mem_of_getElem? hg)
    obtain ⟨gi,hgi⟩:=Option.isSome_iff_exists.1 this
    have hc:P.cellsOf g.type=gi.size:=by simp [Program.cellsOf,hgi]
    rw [hc] at hs
    have ha:(⟨b,q,none⟩:Addr).add g.offset=⟨b,q + g.offset,none⟩:=addr_add _ _ rfl
    simp [Instr.fieldAt,run_underlying hu,hg',Instr.sureAddr,fieldPlace,run_size hgi,hs,ha]
theorem pu_fieldA (h:SRx c I m st a w) {o:Oper} {t:TypeId} {i:TInfo} (ht:TI P t i) {x:Operand} {s u j q f off sz:Nat} {ft:TypeId} {fs:List (Nat×TypeId×Nat)} (ho:o.op = .fieldAddr t x f)
    (hd:i.d = .st fs) (hf:fs[f]?=some (off,ft,sz)) (hs:sz≠0) (hx:Ev st x (.op s u j q)):Gives P c st (.op s u j (q + off)) o a w:=by
  obtain ⟨ad,e,k0,k⟩:=(hx.vr h).op_inv
  by_cases hc:(st.b s).ver=u∧(st.b s).mode≠.dead
  · obtain ⟨rfl,hj⟩:=k hc.1 hc.2
    refine gives_value h (V:=.pointer (some ⟨(m s).g,((m s).base + j) * (m s).sz + q + off,none⟩)) ?_ (.op s u j (q + off) _ k0 fun _ _=>⟨by rw [Nat.add_assoc],hj⟩)
    simp [execOp,ho,e,run_fieldAt ht hd hf hs]
  · obtain ⟨inf,ds,z,F⟩:=ht.facts
    obtain ⟨Fl,e1,e2⟩:=td_st (F.dd.symm.trans hd)
    have hu:=F.und
    rw [e1] at hu
    rw [e2,List.getElem?_map] at hf
    cases hg:Fl.toList[f]? with
    | none=>rw [hg] at hf;cases hf
    | some g =>
      rw [hg] at hf
      simp only [Option.map_some,Option.some.injEq,Prod.mk.injEq] at hf
      obtain ⟨rfl,rfl,rfl⟩:=hf
      have hg':Fl[f]?=some g:=by rw [← Array.getElem?_toList];exact hg
      have hok:=F.fok
      rw [e1] at hok
      simp only [fok,List.all_eq_true] at hok
      have:=hok g (List.mem_of_getElem? hg)
      obtain ⟨gi,hgi⟩:=Option.isSome_iff_exists.1 this
      have hcs:P.cellsOf g.type=gi.size:=by simp [Program.cellsOf,hgi]
      rw [hcs] at hs
      refine gives_value h (V:=.pointer (some (ad.add g.offset))) ?_ (.op s u j _ _ k0 fun h1 h2=>absurd ⟨h1,h2⟩ hc)
      simp [execOp,ho,e,Instr.fieldAt,run_underlying hu,hg',Instr.sureAddr,fieldPlace,run_size hgi,hs]
theorem pu_fieldR (h:SRx c I m st a w) {o:Oper} {t:TypeId} {i:TInfo} (ht:TI P t i) {x:Operand} {v:AV} {q f off sz:Nat} {ft:TypeId} {fs:List (Nat×TypeId×Nat)} (ho:o.op = .fieldAddr t x f)
    (hd:i.d = .st fs) (hf:fs[f]?=some (off,ft,sz)) (hs:sz≠0) (hx:Ev st x (.fp v q)):Gives P c st (.fp v (q + off)) o a w:=by
  obtain ⟨V,b,p,e,h1,h2,h3,h4⟩:=(hx.vr h).fp_inv
  refine gives_value h (V:=.pointer (some ⟨b,p + (q + off),none⟩)) ?_ (.fp v _ V b p h1 h2 h3 h4)
  have:=run_fieldAt (P:=P) ht hd hf hs b (p + q) w
  rw [Nat.add_assoc] at this
  simp [execOp,ho,e,this,Nat.add_assoc]
theorem run_indexAt {t:TypeId} {i ie:TInfo} {e:TypeId} (ht:TI P t i) (he:TI P e ie) (hd:i.d = .sl e) (x:Addr) (len cap:Nat) (k:IntKind) (n:Int) (h0:0≤n) (hn:n < (len:Int)) (hsp:x.spot=none) (w:World) :
    (Instr.indexAt t (.slice (some x) len cap) (.int k n)).run P w = .ok (.pointer (some ⟨x.block,x.off + n.toNat * ie.size,none⟩)) w:=by
  obtain ⟨inf,ds,z,F⟩:=ht.facts
  obtain ⟨ein,eds,ez,E⟩:=he.facts
  have e1:=td_sl (F.dd.symm.trans hd)
  have hu:=F.und
  rw [e1] at hu
  have ha:=addr_add x (n.toNat * ie.size) hsp
  simp [Instr.indexAt,asIntOf,run_underlying hu,h0,hn,run_size E.info,E.size,ha]
theorem pu_indexI (h:SRx c I m st a w) {o:Oper} {t e:TypeId} {i ie:TInfo} (ht:TI P t i) (he:TI P e ie) {x y:Operand} {k k':IntKind} {l:List Int} {n:Int} (ho:o.op = .indexAddr t x y)
    (hd:i.d = .sl e) (h1:ie.size=1) (hx:Ev st x (.fi k l)) (hy:Ev st y (.int k' n)) (h0:0≤n) (hn:n < (l.length:Int)):Gives P c st (.fp (.int k (l.getD n.toNat 0)) 0) o a w:=by
  obtain ⟨ad,cap,e1,hc,hk⟩:=(hx.vr h).fi_inv
  have e2:=(hy.vr h).int_inv
  obtain ⟨q,rfl,hsp,hI,hcell⟩:=hk n.toNat (by omega)
  refine gives_value h (V:=.pointer (some ⟨q.block,q.off + n.toNat + 0,none⟩)) ?_ (.fp _ 0 (.int k (l.getD n.toNat 0)) q.block (q.off + n.toNat) (.int _ _) hI (by simp [Value.cells,Value.oneCell']) fun j hj=>?_)
  · have:=run_indexAt (P:=P) ht he hd q l.length cap k' n h0 hn hsp w
    rw [h1,Nat.mul_one] at this
    simp [execOp,ho,e1,e2,this]
  · have:j=0:=by simp [Value.cells] at hj;omega
    subst this
    exact hcell
theorem pu_indexV (h:SRx c I m st a w) {o:Oper} {t e:TypeId} {i ie:TInfo} (ht:TI P t i) (he:TI P e ie) {x y:Operand} {k':IntKind} {es:List AV} {n:Int} (ho:o.op = .indexAddr t x y)
    (hd:i.d = .sl e) (h1:szOk ie.size (es.getD n.toNat .bad)) (hx:Ev st x (.fv es)) (hy:Ev st y (.int k' n)) (h0:0≤n) (hn:n < (es.length:Int)):Gives P c st (.fp (es.getD n.toNat .bad) 0) o a w:=by
  obtain ⟨ad,cap,sz,U,e1,hc,hU,hk⟩:=(hx.vr h).fv_inv
  have e2:=(hy.vr h).int_inv
  have hlt:n.toNat < es.length:=by omega
  obtain ⟨hsz,hone,q,rfl,hsp,hI,hcell⟩:=hk n.toNat hlt
  have hs:sz=ie.size:=by rw [← hsz,(hU _ hlt).cells_size h1.2,h1.1]
  refine gives_value h (V:=.pointer (some ⟨q.block,q.off + n.toNat * ie.size + 0,none⟩)) ?_ (.fp _ 0 (U n.toNat) q.block (q.off + n.toNat * ie.size) (hU _ hlt) hI hone fun j hj=>?_)
  · have:=run_indexAt (P:=P) ht he hd q es.length cap k' n h0 hn hsp w
    simp [execOp,ho,e1,e2,this]
  · rw [← hs]
    exact hcell j (hsz ▸ hj)
theorem pu_indexO (h:SRx c I m st a w) {o:Oper} {t e:TypeId} {i ie:TInfo} (ht:TI P t i) (he:TI P e ie) {x y:Operand} {k':IntKind} {s u off len:Nat} {full:Bool} {n:Int} (ho:o.op = .indexAddr t x y)
    (hd:i.d = .sl e) (hx:Ev st x (.os s u off len full)) (hu:(st.b s).ver=u) (hm:(st.b s).mode≠.dead) (hy:Ev st y (.int k' n)) (h0:0≤n) (hn:n < (len:Int))
    (h1:szOk ie.size ((st.b s).row.get (off + n.toNat))):Gives P c st (.op s u (off + n.toNat) 0) o a w:=by
  obtain ⟨ad,cap,e1,k0,k⟩:=(hx.vr h).os_inv
  obtain ⟨k1,k2,k3,k4⟩:=k hu hm
  have e2:=(hy.vr h).int_inv
  have hlt:off + n.toNat < (st.b s).row.len:=by omega
  obtain ⟨V,j1,j2,j3,j4⟩:=h.wr.var hm hlt
  have hs:(m s).sz=ie.size:=by rw [← j3,j1.cells_size h1.2,h1.1]
  have had:=k3.resolve_left (by omega)
  subst had
  refine gives_value h (V:=.pointer (some ⟨(m s).g,((m s).base + off) * (m s).sz + n.toNat * ie.size,none⟩)) ?_ (.op s u _ 0 _ k0 fun _ _=>⟨by rw [← hs,← Nat.add_mul,Nat.add_assoc];rfl,hlt⟩)
  have:=run_indexAt (P:=P) ht he hd ⟨(m s).g,((m s).base + off) * (m s).sz,none⟩ len cap k' n h0 hn rfl w
  simp [execOp,ho,e1,e2,this]
end
end Go.AVL
end

section
namespace Go.AVL
open Go.RowKit
set_option linter.unusedVariables false
set_option linter.unusedSimpArgs false
section
variable {P : Program} {c : Ctx P} {I : Nat → Prop} {m : Nat → Reg} {w w' : World} {st : St} {a : Act} {B : Nat → Blk}
theorem run_slice {t:TypeId} {i ie:TInfo} {e:TypeId} (ht:TI P t i) (he:TI P e ie) (hd:i.d = .sl e) (h:SRx c I m st a w) {lo hi mx:Option Operand} {len cap x y:Nat} (ad:Option Addr)
    (hlo:Bd st lo 0 x) (hhi:Bd st hi len y) (hm:Mx st y len hi mx) (hxy:x≤y) (hy:y≤len) (hc:len≤cap) :
    ∃ mm,y≤mm∧mm≤cap∧(mx=none→mm=cap)∧(Instr.sliceAt t (.slice ad len cap) (lo.map a.eval) (hi.map a.eval) (mx.map a.eval)).run P w = .ok (.slice (if mm=x then ad else ad.map (·.add (x * ie.size))) (y - x) (mm - x)) w:=by
  obtain ⟨inf,ds,z,F⟩:=ht.facts
  obtain ⟨ein,eds,ez,E⟩:=he.facts
  have e1:=td_sl (F.dd.symm.trans hd)
  have hu:=F.und
  rw [e1] at hu
  obtain ⟨mm,h1,h2,h3⟩:=hm.spec hy hc
  have:=run_bounds (P:=P) (isS:=true) h hlo hhi hxy (cap:=cap) (mm:=mm) (by omega) h3
  refine ⟨mm,h1,h2,fun e=>?_,?_⟩
  · rcases h3 with ⟨_,h⟩|⟨q,k,n,hq,h,_⟩
    · exact h
    · rw [e] at h;cases h
  · simp [Instr.sliceAt,Instr.slice,run_underlying hu,this,run_size E.info,E.size]
theorem pu_sliceI (h:SRx c I m st a w) {o:Oper} {t e:TypeId} {i ie:TInfo} (ht:TI P t i) (he:TI P e ie) {x:Operand} {k:IntKind} {l:List Int} {lo hi mx:Option Operand} {p q:Nat} (ho:o.op = .slice t x lo hi mx)
    (hd:i.d = .sl e) (h1:ie.size=1) (hx:Ev st x (.fi k l)) (hlo:Bd st lo 0 p) (hhi:Bd st hi l.length q) (hm:Mx st q l.length hi mx) (hpq:p≤q) (hq:q≤l.length):Gives P c st (.fi k ((l.take q).drop p)) o a w:=by
  obtain ⟨ad,cap,e1,hc,hk⟩:=(hx.vr h).fi_inv
  obtain ⟨mm,m1,m2,_,hr⟩:=run_slice (P:=P) ht he hd h ad hlo hhi hm hpq hq hc
  have hl:((l.take q).drop p).length=q - p:=by simp;omega
  refine gives_value h (V:=.slice (if mm=p then ad else ad.map (·.add (p * ie.size))) (q - p) (mm - p)) (by simp [execOp,ho,e1,hr]) ?_
  rw [← hl]
  refine .fi k _ _ _ (by omega) fun j hj=>?_
  obtain ⟨y,rfl,hsp,hI,hcell⟩:=hk (p + j) (by omega)
  rw [if_neg (by omega),h1,Nat.mul_one]
  refine ⟨y.add p,rfl,?_⟩
  rw [addr_add y p hsp]
  refine ⟨rfl,hI,?_⟩
  simp only
  rw [Nat.add_assoc,hcell]
  simp only [List.getD_eq_getElem?_getD,List.getElem?_drop,List.getElem?_take]
  rw [if_pos (by omega)]
theorem pu_sliceV (h:SRx c I m st a w) {o:Oper} {t e:TypeId} {i ie:TInfo} (ht:TI P t i) (he:TI P e ie) {x:Operand} {es:List AV} {lo hi mx:Option Operand} {p q:Nat} (ho:o.op = .slice t x lo hi mx)
    (hd:i.d = .sl e) (h1:p=0∨szOk ie.size (es.getD 0 .bad)) (hx:Ev st x (.fv es)) (hlo:Bd st lo 0 p) (hhi:Bd st hi es.length q) (hm:Mx st q es.length hi mx) (hpq:p≤q) (hq:q≤es.length):Gives P c st (.fv ((es.take q).drop p)) o a w:=by
  obtain ⟨ad,cap,sz,U,e1,hc,hU,hk⟩:=(hx.vr h).fv_inv
  obtain ⟨mm,m1,m2,_,hr⟩:=run_slice (P:=P) ht he hd h ad hlo hhi hm hpq hq hc
  have hl:((es.take q).drop p).length=q - p:=by simp;omega
  have hgd : ∀ j,j < q - p→((es.take q).drop p).getD j .bad=es.getD (p + j) .bad:=fun j hj=>by
    simp only [List.getD_eq_getElem?_getD,List.getElem?_drop,List.getElem?_take]
    rw [if_pos (by omega)]
  refine gives_value h (V:=.slice (if mm=p then ad else ad.map (·.add (p * ie.size))) (q - p) (mm - p)) (by simp [execOp,ho,e1,hr]) ?_
  rw [← hl]
  refine .fv _ _ _ sz (fun j=>U (p + j)) (by omega) (fun j hj=>by rw [hgd j (by omega)];exact hU _ (by omega)) fun j hj=>?_
  obtain ⟨k1,k2,y,rfl,hsp,hI,hcell⟩:=hk (p + j) (by omega)
  refine ⟨k1,k2,?_⟩
  rw [if_neg (by omega)]
  refine ⟨y.add (p * ie.size),rfl,?_⟩
  rw [addr_add y _ hsp]
  refine ⟨rfl,hI,fun jj hjj=>?_⟩
  simp only
  have hsz:p * ie.size=p * sz:=by
    rcases h1 with rfl|h1
    · simp
    · congr 1
      rw [← (hk 0 (by omega)).1,(hU 0 (by omega)).cells_size h1.2,h1.1]
  rw [hsz,show y.off + p * sz + j * sz + jj=y.off + (p + j) * sz + jj by rw [Nat.add_mul];omega]
  exact hcell jj hjj
theorem pu_sliceO (h:SRx c I m st a w) {o:Oper} {t e:TypeId} {i ie:TInfo} (ht:TI P t i) (he:TI P e ie) {x:Operand} {s u off len:Nat} {full:Bool} {lo hi mx:Option Operand} {p q:Nat} (ho:o.op = .slice t x lo hi mx)
    (hd:i.d = .sl e) (hx:Ev st x (.os s u off len full)) (hu:(st.b s).ver=u) (hmo:(st.b s).mode≠.dead) (h1:p=0∨szOk ie.size ((st.b s).row.get 0)) (hlo:Bd st lo 0 p) (hhi:Bd st hi len q) (hm:Mx st q len hi mx) (hpq:p≤q) (hq:q≤len) :
    Gives P c st (.os s u (off + p) (q - p) false) o a w:=by
  obtain ⟨ad,cap,e1,k0,k⟩:=(hx.vr h).os_inv
  obtain ⟨k1,k2,k3,k4⟩:=k hu hmo
  obtain ⟨mm,m1,m2,_,hr⟩:=run_slice (P:=P) ht he hd h ad hlo hhi hm hpq hq k2
  refine gives_value h (V:=.slice (if mm=p then ad else ad.map (·.add (p * ie.size))) (q - p) (mm - p)) (by simp [execOp,ho,e1,hr]) ?_
  refine .os s u _ _ _ _ _ k0 fun _ _=>⟨by omega,by omega,?_,fun hf=>by cases hf⟩
  by_cases hmp:mm=p
  · exact .inl (by omega)
  · right
    rw [if_neg hmp,k3.resolve_left (by omega)]
    simp only [Option.map_some,Option.some.injEq]
    rw [addr_add _ _ rfl]
    have hsz:p * ie.size=p * (m s).sz:=by
      by_cases hp:p=0
      · subst hp;simp
      · congr 1
        have h1':=h1.resolve_left hp
        obtain ⟨V,j1,j2,j3,j4⟩:=h.wr.var hmo (i:=0) (by omega)
        rw [← j3,j1.cells_size h1'.2,h1'.1]
    rw [hsz,← Nat.add_mul,Nat.add_assoc]
theorem pu_sliceS (h:SRx c I m st a w) {o:Oper} {t:TypeId} {i:TInfo} (ht:TI P t i) {x:Operand} {s:ByteArray} {lo hi:Option Operand} {p q:Nat} (ho:o.op = .slice t x lo hi none)
    (hd:i.d = .str) (hx:Ev st x (.str s)) (hlo:Bd st lo 0 p) (hhi:Bd st hi s.size q) (hpq:p≤q) (hq:q≤s.size):Gives P c st (.str (s.extract p q)) o a w:=by
  obtain ⟨inf,ds,z,F⟩:=ht.facts
  have e1:=td_str (F.dd.symm.trans hd)
  have hu:=F.und
  rw [e1] at hu
  have e2:=(hx.vr h).str_inv
  have:=run_bounds (P:=P) (isS:=false) (mx:=none) h hlo hhi hpq (cap:=s.size) (mm:=s.size) hq (.inl ⟨rfl,rfl⟩)
  simp only [Option.map_none] at this
  exact gives_value h (V:=.string (s.extract p q)) (by simp [execOp,ho,e2,Instr.sliceAt,Instr.slice,run_underlying hu,this]) (.str _)
theorem pu_indexS (h:SRx c I m st a w) {o:Oper} {t:TypeId} {i:TInfo} (ht:TI P t i) {x y:Operand} {s:ByteArray} {k:IntKind} {n:Int} (ho:o.op = .index t x y)
    (hd:i.d = .str) (hx:Ev st x (.str s)) (hy:Ev st y (.int k n)) (h0:0≤n) (hn:n < (s.size:Int)):Gives P c st (.int .u8 (bt s n.toNat)) o a w:=by
  obtain ⟨inf,ds,z,F⟩:=ht.facts
  have e1:=td_str (F.dd.symm.trans hd)
  have hu:=F.und
  rw [e1] at hu
  have e2:=(hx.vr h).str_inv
  have e3:=(hy.vr h).int_inv
  have hlt:n.toNat < s.size:=by omega
  refine gives_value h (V:=.int .u8 (bt s n.toNat)) ?_ (.int _ _)
  simp [execOp,ho,e2,e3,Instr.index,asIntOf,run_underlying hu,h0,bt,hlt]
theorem pu_build (h:SRx c I m st a w) {o:Oper} {t:TypeId} {i:TInfo} (ht:TI P t i) {fs:List (Nat×TypeId×Nat)} {parts:Array (Nat×Operand)} {r:List AV} (ho:o.op = .build t parts)
    (hd:i.d = .st fs) (hb:BuildR st fs parts.toList i.zero r):Gives P c st (.agg r) o a w:=by
  obtain ⟨inf,ds,z,F⟩:=ht.facts
  obtain ⟨Fl,e1,e2⟩:=td_st (F.dd.symm.trans hd)
  have hu:=F.und
  rw [e1] at hu
  have hok:=F.fok
  rw [e1] at hok
  simp only [fok,List.all_eq_true] at hok
  have key : ∀ (l:List Field),(∀ f ∈ l,(P.info? f.type).isSome=true)→l.mapM (fun f=>(P.info? f.type).map fun i=>(f.offset,i.size))=some (l.map fun f=>(f.offset,P.cellsOf f.type)):=by
    intro l
    induction l with
    | nil=>intro _;rfl
    | cons f l ih =>
      intro hl
      obtain ⟨gi,hgi⟩:=Option.isSome_iff_exists.1 (hl f (by simp))
      rw [List.mapM_cons,ih fun g hg=>hl g (by simp [hg])]
      simp [hgi,Program.cellsOf]
  have hz:VL I w st.b m i.zero z.cells:=⟨by rw [F.zlen,F.zsz],F.zone,fun j hj=>F.zcell _ _ _ _ j (F.zlen ▸ hj)⟩
  obtain ⟨rs,k1,k2⟩:=fill_build h (place:=((Fl.toList.map fun f=>(f.offset,P.cellsOf f.type)).toArray[·]?)) (fun j off ft sz hf=>by
    rw [e2,List.getElem?_map] at hf
    simp only [List.getElem?_toArray,List.getElem?_map]
    cases hg:Fl.toList[j]? with
    | none=>rw [hg] at hf;cases hf
    | some g =>
      rw [hg] at hf
      simp only [Option.map_some,Option.some.injEq,Prod.mk.injEq] at hf ⊢
      exact ⟨hf.1,hf.2.2⟩) hb hz
  refine gives_value h (V:=.agg rs) ?_ k2.agg
  have hbuilt:P.built t (parts.map fun (i,x)=>(i,a.eval x)).toList=some rs:=by
    unfold Program.built
    rw [F.info,hu]
    simp only [F.zero,key Fl.toList hok]
    rw [Array.toList_map]
    exact k1
  simp [execOp,ho,run_build w t _ rs hbuilt]
theorem pu_litO (h:SRx c I m st a w) {o:Oper} {d:Nat} {t e:TypeId} {i ie:TInfo} (ht:TI P t i) (he:TI P e ie) {len:Nat} {parts:Array (Nat×Operand)} {vs:List AV} {row:Row} (ho:o.op = .buildSlice t len parts)
    (hd:i.d = .sl e) (hp:PartsR st 0 parts.toList vs) (hl:len=vs.length) (hsm:len * ie.size≤16777216) (hs:0 < ie.size) (hsz : ∀ j,j < vs.length→(vs.getD j .bad).cells.length=ie.size) (hr:RowIs row vs) :
    Gives P c (st.putb d ⟨(st.b d).ver + 1, .own,row,e⟩) (.os d ((st.b d).ver + 1) 0 len true) o a w:=by
  obtain ⟨inf,ds,z,F⟩:=ht.facts
  obtain ⟨ein,eds,ez,E⟩:=he.facts
  have e1:=td_sl (F.dd.symm.trans hd)
  have hu:=F.und
  rw [e1] at hu
  obtain ⟨Vs,p1,p2,p3⟩:=hp.spec h
  have hcs : ∀ v ∈ Vs,v.cells.size=ie.size:=by
    intro v hv
    obtain ⟨j,hj,rfl⟩:=List.getElem_of_mem hv
    have:=p3 j (by omega)
    have e0:Vs.getD j undef=Vs[j]:=by simp [List.getD,hj]
    rw [e0] at this
    rw [this.1.cells_size (by have h2:=this.2;revert h2;generalize vs.getD j .bad=q;intro h2;cases q <;> first|rfl|cases h2),hsz j (by omega)]
  obtain ⟨r1,r2⟩:=hr.spec
  have hone : ∀ v ∈ Vs,∀ u ∈ v.cells.toList,u.oneCell'=true:=by
    intro v hv
    obtain ⟨j,hj,rfl⟩:=List.getElem_of_mem hv
    have:=p3 j (by omega)
    have e0:Vs.getD j undef=Vs[j]:=by simp [List.getD,hj]
    rw [e0] at this
    exact (this.1.vl this.2).2.1
  have hzs:ez.cells.size=ie.size:=E.zsz
  have hfill:Instr.fill (fun i=>some (i * ie.size,ie.size)) ((Array.range (len * ie.size)).map (ez.cells[· % ez.cells.size]!)) (parts.map fun (i,x)=>(i,a.eval x)).toList=some (Vs.flatMap fun v=>v.cells.toList).toArray:=by
    rw [Array.toList_map]
    have:=Great.fill_whole hs Vs ((Array.range (len * ie.size)).map (ez.cells[· % ez.cells.size]!)) hcs (by simp [p2,hl])
    rw [← this]
    congr 1
  have hbld:(Instr.buildSlice t len (parts.map fun (i,x)=>(i,a.eval x))).run P w = .ok (.slice (some ⟨w.heap.size,0,none⟩) len len) (w.alloc (.cells (Vs.flatMap fun v=>v.cells.toList).toArray e)):=by
    by_cases h0:len * ie.size=0
    · have hz0:len=0:=by
        rcases Nat.mul_eq_zero.1 h0 with h|h
        · exact h
        · omega
      subst hz0
      have hV:Vs = []:=List.eq_nil_of_length_eq_zero (by omega)
      subst hV
      have hps:(parts.map fun (i,x)=>(i,a.eval x)).toList = []:=by rw [Array.toList_map];simpa using p1
      have hps':parts.toList = []:=by
        cases hpt:parts.toList with
        | nil=>rfl
        | cons x xs=>rw [Array.toList_map,hpt] at hps;cases hps
      have:parts = #[]:=by rw [← Array.toArray_toList (xs:=parts),hps']
      subst this
      simp [Instr.buildSlice,run_underlying hu,run_size E.info,E.size,Go.newRow,Instr.fill,Array.range_zero']
    · exact run_buildSlice w t e len _ _ ein ez hu E.info E.zero (by rw [E.size];omega) (by rw [E.size];exact h0) (by rw [E.size];exact hfill)
  intro K Q hK
  unfold Oper.wp
  have hex:(execOp a.eval o).run P w = .ok (.value (.slice (some ⟨w.heap.size,0,none⟩) len len)) (w.alloc (.cells (Vs.flatMap fun v=>v.cells.toList).toArray e)):=by
    simp [execOp,ho,hbld]
  rw [hex]
  have hlr:row.len=len:=by rw [r1,hl]
  have hnew:=h.newRow (d:=d) (e:=e) (row:=row) (cur:=(Vs.flatMap fun v=>v.cells.toList).toArray) (cap:=len) (sz:=ie.size) (by simp only [List.size_toArray];rw [flat_len Vs hcs,p2,hl]) (by omega) (by simp only [maxLen];have:len * 1≤len * ie.size:=Nat.mul_le_mul_left _ hs;omega) (by rw [← E.size];simp [Program.cellsOf,E.info]) (fun j hj=>by
    rw [hlr] at hj
    refine ⟨Vs.getD j undef,?_,hcs _ (by simp [List.getD,show j < Vs.length by omega]),?_,fun jj hjj=>?_⟩
    · rw [r2 j (by omega)];exact (p3 j (by omega)).1
    · exact hone _ (by simp [List.getD,show j < Vs.length by omega])
    · rw [Nat.zero_add,List.getElem?_toArray]
      exact flat_get Vs hcs j jj (by omega) hjj) (.full rfl (by show (Vs.flatMap fun v=>v.cells.toList).toArray.size≤(0 + row.len) * ie.size;simp only [List.size_toArray];rw [flat_len Vs hcs,p2,hlr,hl,Nat.zero_add];exact Nat.le_refl _))
  have hos:=VR.newOs (I:=I) (w:=w.alloc (.cells (Vs.flatMap fun v=>v.cells.toList).toArray e)) (m:=m) (B:=st.b) (d:=d) (row:=row) (e:=e) (cap:=len) (sz:=ie.size) w.heap.size ((st.b d).ver + 1) (by omega)
  rw [hlr] at hos
  exact hK _ _ I _ hnew hos
end
end Go.AVL
end

section
namespace Go.AVL
open Go.RowKit
set_option linter.unusedVariables false
set_option linter.unusedSimpArgs false
section
variable {P : Program} {c : Ctx P} {I : Nat → Prop} {m : Nat → Reg} {w w' : World} {st : St} {a : Act} {B : Nat → Blk}
theorem zero_get (P:Program) {e:TypeId} {ie:TInfo} (he:TI P e ie) {ein:TypeInfo} {eds:TypeDesc} {ez:Value} (E:TF P e ie ein eds ez) (hs:0 < ie.size) {n cap j jj:Nat} (hj:j < cap) (hjj:jj < ie.size) :
    (madeCells ez.cells (cap * ie.size))[(0 + j) * ie.size + jj]?=ez.cells[jj]?:=by
  have hlt:j * ie.size + jj < cap * ie.size:=by
    have:(j + 1) * ie.size≤cap * ie.size:=Nat.mul_le_mul_right _ hj
    rw [Nat.add_mul] at this
    omega
  rw [Nat.zero_add,made_get hlt (by rw [E.zsz];exact hs),E.zsz]
  congr 1
  rw [Nat.add_comm,Nat.add_mul_mod_self_right,Nat.mod_eq_of_lt hjj]
theorem gives_make (h:SRx c I m st a w) {o:Oper} {d:Nat} {t e:TypeId} {i ie:TInfo} (ht:TI P t i) (he:TI P e ie) {x y:Operand} {k k':IntKind} {p q:Int} {row:Row} (ho:o.op = .makeSlice t x y)
    (hd:i.d = .sl e) (hs:0 < ie.size) (hx:Ev st x (.int k p)) (hy:Ev st y (.int k' q)) (h0:0≤p) (hpq:p≤q) (hb:ie.bytes * q.toNat≤281474976710656) (h63:q≤9223372036854775807)
    (hr:row.len=p.toNat) (hz : ∀ j,j < p.toNat→∀ V,VR I w st.b m ie.zeroV V→VR I w st.b m (row.get j) V) :
    Gives P c (st.putb d ⟨(st.b d).ver + 1, .own,row,e⟩) (.os d ((st.b d).ver + 1) 0 p.toNat true) o a w:=by
  obtain ⟨inf,ds,z,F⟩:=ht.facts
  obtain ⟨ein,eds,ez,E⟩:=he.facts
  have e1:=td_sl (F.dd.symm.trans hd)
  have hu:=F.und
  rw [e1] at hu
  have e2:=(hx.vr h).int_inv
  have e3:=(hy.vr h).int_inv
  have hb':(ein.bytes:Int) * q≤281474976710656:=by
    rw [E.bytes]
    have:((ie.bytes * q.toNat:Nat):Int)≤((281474976710656:Nat):Int):=Int.ofNat_le.2 hb
    rw [Int.natCast_mul,Int.toNat_of_nonneg (by omega)] at this
    exact this
  have hrun:=run_make (P:=P) w t e ein ez hu E.info E.zero k k' p q h0 hpq hb' h63
  rw [E.size] at hrun
  intro K Q hK
  unfold Oper.wp
  have hex:(execOp a.eval o).run P w = .ok (.value (.slice (some ⟨w.heap.size,0,none⟩) p.toNat q.toNat)) (w.alloc (.cells (madeCells ez.cells (q.toNat * ie.size)) e)):=by
    simp [execOp,ho,e2,e3,hrun]
  rw [hex]
  have hnew:=h.newRow (d:=d) (e:=e) (row:=row) (cur:=madeCells ez.cells (q.toNat * ie.size)) (cap:=q.toNat) (sz:=ie.size) (size_madeCells _ _) (by omega) (by simp only [maxLen];omega) (by rw [← E.size];simp [Program.cellsOf,E.info]) (fun j hj=>by
    rw [hr] at hj
    exact ⟨ez,hz j hj ez (E.zvr _ _ _ _),E.zsz,E.zone,fun jj hjj=>zero_get P he E hs (n:=0) (by omega) hjj⟩) (fun hn _ i _ k n=>by
    by_cases hi:i < q.toNat * ie.size
    · rw [made_get hi (by rw [E.zsz];exact hs)]
      exact zero_not_int he E hn _ (Nat.mod_lt _ (by rw [E.zsz];exact hs)) k n
    · rw [Array.getElem?_eq_none (by rw [size_madeCells];omega)];simp)
  have hos:=VR.newOs (I:=I) (w:=w.alloc (.cells (madeCells ez.cells (q.toNat * ie.size)) e)) (m:=m) (B:=st.b) (d:=d) (row:=row) (e:=e) (cap:=q.toNat) (sz:=ie.size) w.heap.size ((st.b d).ver + 1) (by omega)
  rw [hr] at hos
  exact hK _ _ I _ hnew hos
theorem pu_makeI (h:SRx c I m st a w) {o:Oper} {d:Nat} {t e:TypeId} {i ie:TInfo} (ht:TI P t i) (he:TI P e ie) {x y:Operand} {k k' kk:IntKind} {p q:Int} (ho:o.op = .makeSlice t x y)
    (hd:i.d = .sl e) (hk:ie.d = .int kk) (hx:Ev st x (.int k p)) (hy:Ev st y (.int k' q)) (h0:0≤p) (hpq:p≤q) (hb:ie.bytes * q.toNat≤281474976710656) (h63:q≤9223372036854775807) :
    Gives P c (st.putb d ⟨(st.b d).ver + 1, .own, .ints kk (List.replicate p.toNat 0),e⟩) (.os d ((st.b d).ver + 1) 0 p.toNat true) o a w:=by
  obtain ⟨ein,eds,ez,E⟩:=he.facts
  have e1:=td_int (E.dd.symm.trans hk)
  have hagg:ie.agg=false:=by rw [E.agg,e1];rfl
  have hze:ie.zero = [.int kk 0]∧ie.size=1:=by
    have e:=he.eq
    unfold tinfo at e
    rw [E.info,E.und] at e
    simp only [E.zero] at e
    split at e
    · rename_i hc
      have e':=Option.some.inj e
      subst e'
      have hz0:zc P 8 t=zc P 8 t:=rfl
      have hzc:zc P 8 ‹TypeId› = [.int kk 0]:=by
        unfold zc
        rw [E.und,e1]
      refine ⟨hzc,?_⟩
      have:=E.zlen
      simp only at this ⊢
      rw [hzc] at this
      exact this.symm
    · cases e
  have hzv:ie.zeroV = .int kk 0:=by simp [TInfo.zeroV,hagg,hze.1]
  refine gives_make h ht he ho hd (by rw [hze.2];exact Nat.zero_lt_one) hx hy h0 hpq hb h63 (by simp [Row.len]) fun j hj V hV=>?_
  rw [hzv] at hV
  show VR I w st.b m (.int kk ((List.replicate p.toNat (0:Int)).getD j 0)) V
  rw [show (List.replicate p.toNat (0:Int)).getD j 0=0 by simp [List.getD,List.getElem?_replicate,hj]]
  exact hV
theorem pu_makeV (h:SRx c I m st a w) {o:Oper} {d:Nat} {t e:TypeId} {i ie:TInfo} (ht:TI P t i) (he:TI P e ie) {x y:Operand} {k k':IntKind} {p q:Int} (ho:o.op = .makeSlice t x y)
    (hd:i.d = .sl e) (hs:0 < ie.size) (hx:Ev st x (.int k p)) (hy:Ev st y (.int k' q)) (h0:0≤p) (hpq:p≤q) (hb:ie.bytes * q.toNat≤281474976710656) (h63:q≤9223372036854775807) :
    Gives P c (st.putb d ⟨(st.b d).ver + 1, .own, .vals (List.replicate p.toNat ie.zeroV),e⟩) (.os d ((st.b d).ver + 1) 0 p.toNat true) o a w :=
  gives_make h ht he ho hd hs hx hy h0 hpq hb h63 (by simp [Row.len]) fun j hj V hV=>by
    show VR I w st.b m ((List.replicate p.toNat ie.zeroV).getD j .bad) V
    rw [show (List.replicate p.toNat ie.zeroV).getD j .bad=ie.zeroV by simp [List.getD,List.getElem?_replicate,hj]]
    exact hV
theorem exec_call {o:Oper} {x:Operand} {args:Array Operand} {ats:Array TypeId} {f:FuncId} {cv:Array Value} (ho:o.op = .call ⟨.value x,args,ats⟩) (hx:a.eval x = .func (.func f) #[] cv) :
    execOp a.eval o=callFunc f (args.map a.eval ++ cv):=by
  unfold execOp
  rw [ho]
  simp only [resolve,hx,Deferred.ofValue]
  show invoke (Target.fn (Fn.func f) cv) (#[] ++ args.map a.eval)=_
  simp [invoke]
theorem wp_call {o:Oper} {f:FuncId} {V:Array Value} {K:Act→World→Prop} {Q:Exit→Act→World→Prop} (he:execOp a.eval o=callFunc f V) (h:CallW P f V w fun v w'=>K (a.put o.dst v) w'):o.wp P a w K Q:=by
  unfold Oper.wp
  rw [he]
  unfold CallW at h
  generalize (callFunc f V).run P w=r at h
  cases r with
  | halt x w'=>exact h.elim
  | ok n w' =>
    cases n with
    | value v=>exact h
    | enter g as=>exact Calls.mono h fun e w'' hh=>by cases e <;> first|exact hh|exact hh.elim
    | _=>exact h.elim
theorem VR.fn_inv {f:FuncId} {caps:List AV} {V:Value} (h:VR I w B m (.fn f caps) V) : ∃ cv:Array Value,V = .func (.func f) #[] cv∧caps.length=cv.size∧∀ i,i < caps.length→VR I w B m (caps.getD i .bad) (cv.getD i undef):=by
  cases h with
  | fn _ _ cv h1 h2=>exact ⟨cv,rfl,h1,h2⟩
theorem call_pre (h:SRx c I m st a w) {x:Operand} {args:Array Operand} {f:FuncId} {caps vs as:List AV} {ss:List Nat} (hx:Ev st x (.fn f caps)) (hv:EvL st args.toList vs) (hsn:SnapL st ss (vs ++ caps) as) :
    ∃ cv:Array Value,a.eval x = .func (.func f) #[] cv∧(args.map a.eval ++ cv).size=as.length ∧
      ∀ B' m',∀ i,i < as.length→VR (fun k=>I k∨slotI st m ss k) w B' m' (as.getD i .bad) ((args.map a.eval ++ cv).getD i undef):=by
  obtain ⟨cv,e1,e2,e3⟩:=(hx.vr h).fn_inv
  obtain ⟨l1,l2⟩:=hv.vr h
  have hlen:args.size=vs.length:=by rw [← Array.length_toList,l1]
  refine ⟨cv,e1,by simp [hlen,← e2,← hsn.1],fun B' m' i hi=>?_⟩
  have hi':i < (vs ++ caps).length:=by rw [hsn.1];exact hi
  refine (hsn.2 i hi').vr h.wr (V:=(args.map a.eval ++ cv).getD i undef) ?_
  by_cases hc:i < vs.length
  · have:=l2 i hc
    rw [show (vs ++ caps).getD i .bad=vs.getD i .bad by simp only [List.getD_eq_getElem?_getD];rw [List.getElem?_append_left hc],
      show (args.map a.eval ++ cv).getD i undef=(args.toList.map a.eval).getD i undef by
        rw [Array.getD_eq_getD_getElem?,List.getD_eq_getElem?_getD,Array.getElem?_append_left (by simp;omega),← Array.getElem?_toList,Array.toList_map]]
    exact this
  · have:=e3 (i - vs.length) (by simp at hi';omega)
    rw [show (vs ++ caps).getD i .bad=caps.getD (i - vs.length) .bad by simp only [List.getD_eq_getElem?_getD];rw [List.getElem?_append_right (by omega)],
      show (args.map a.eval ++ cv).getD i undef=cv.getD (i - vs.length) undef by
        rw [Array.getD_eq_getD_getElem?,Array.getD_eq_getD_getElem?,Array.getElem?_append_right (by simp;omega)];simp [hlen]]
    exact this
theorem slot_lt (h:WR c I m st.b w) {ss:List Nat} {k:Nat} (hk:slotI st m ss k):k < w.heap.size:=by
  obtain ⟨s,_,h1,h2,rfl⟩:=hk
  rcases h.blk s h1 with h0|⟨cur,h3,_⟩
  · exact absurd h0 h2
  · exact lt_of_some h3
theorem WR.fresh (A:Nat→Prop) (w:World) (m:Nat→Reg) (hA : ∀ k,A k→k < w.heap.size):WR (⟨0,w,A,none⟩:Ctx P) A m noB w where
  os:=rfl
  tape:=rfl
  output:=rfl
  size:=Nat.le_refl _
  frame _ _ _:=rfl
  frameW _ _ _ h:=by cases h
  imm k hk:=⟨hA k hk, .inl hk⟩
  blk s h:=absurd rfl h
  inj s s' h _ _:=by rcases h.1 with h|h <;> cases h
theorem WR.below {n:Nat} {A:Nat→Prop} {I':Nat→Prop} {m':Nat→Reg} {B':Nat→Blk} (h:WR (⟨n,w,A,none⟩:Ctx P) I' m' B' w'):Below w.heap.size w w' :=
  ⟨h.os,h.tape,h.output,h.size,fun k hk=>h.frame k hk (by simp)⟩
theorem SRx.after (h:SRx c I m st a w) {ss:List Nat} {I':Nat→Prop} {m':Nat→Reg} {B':Nat→Blk} (hw:WR (⟨0,w,fun k=>I k∨slotI st m ss k,none⟩:Ctx P) I' m' B' w') (hss:ss = []):SRx c (fun k=>I k∨I' k) m st a w':=by
  have h2:=h.grow hw.below
  have hno : ∀ k,¬ slotI st m ss k:=by rintro k ⟨s,hs,_⟩;rw [hss] at hs;cases hs
  refine ⟨h2.wr.read (fun _ k=>.inl k) (fun k hk=>?_) (fun s hs hz hi=>?_),h2.def0,h2.sz,fun x=>(h2.tmp x).grow (fun _ k=>.inl k) fun _ _=>rfl⟩
  · rcases hk with hk|hk
    · exact ⟨(h2.wr.imm k hk).1,(h2.wr.imm k hk).2⟩
    · refine ⟨(hw.imm k hk).1,?_⟩
      rcases (hw.imm k hk).2 with (hi|hi)|hi
      · exact (h.wr.imm k hi).2
      · exact absurd hi (hno k)
      · exact .inr (Nat.le_trans h.wr.size hi)
  · rintro (hk|hk)
    · exact hi hk
    · have hlt:(m s).g < w.heap.size:=by
        rcases h.wr.blk s (fun e=>by rcases hs with h|h <;> rw [e] at h <;> cases h) with h0|⟨cur,h3,_⟩
        · exact absurd h0 hz
        · exact lt_of_some h3
      rcases (hw.imm _ hk).2 with (hi'|hi')|hi'
      · exact hi hi'
      · exact hno _ hi'
      · exact absurd hlt (Nat.not_lt.2 hi')
theorem pu_call (h:SRx c I m st a w) {o:Oper} {x:Operand} {args:Array Operand} {ats:Array TypeId} {f:FuncId} {caps vs as res:List AV} {ss:List Nat} (ho:o.op = .call ⟨.value x,args,ats⟩)
    (hx:Ev st x (.fn f caps)) (hv:EvL st args.toList vs) (hsn:SnapL st ss (vs ++ caps) as) (hcs:CS P f as .no res) (hss:ss = []∨Flat (AV.mk res)) (hcl:Cl (AV.mk res)):Gives P c st (AV.mk res) o a w:=by
  obtain ⟨cv,e1,e2,e3⟩:=call_pre h hx hv hsn
  intro K Q hK
  have hA : ∀ k,(I k∨slotI st m ss k)→k < w.heap.size:=fun k hk=>hk.elim (fun hk=>(h.wr.imm k hk).1) (slot_lt h.wr)
  refine wp_call (exec_call ho e1) ((hcs (fun k=>I k∨slotI st m ss k) none w m _ (fun _=>rfl) (WR.fresh _ w m hA) e2 fun i hi=>e3 noB m i hi).mono ?_)
  rintro v w' ⟨I',m',hw,_,hvr⟩
  rcases hss with hss|hfl
  · exact hK v w' _ m (h.after hw hss) (hcl.vr hvr (fun _ k=>.inr k) fun _ _ _=>rfl)
  · exact hK v w' I m (h.grow hw.below) (hfl.vr hvr)
theorem slot_noI (h:SRx c I m st a w) {ss:List Nat} (hn:NoI P st ss) {g o:Nat} {k:IntKind} {n:Int} (hk:slotI st m ss g):w.cell? ⟨g,o,none⟩≠some (.int k n):=by
  obtain ⟨s,hs,hd,hz,rfl⟩:=hk
  obtain ⟨hm,hn0,es,he,hcl⟩:=hn s hs
  rcases h.wr.blk s hd with h0|⟨cur,h1,h2,h3⟩
  · exact absurd h0 hz
  · unfold BM at h3
    rw [hm] at h3
    obtain ⟨⟨hsp,_⟩,_⟩:=h3
    have hc:w.cell? ⟨(m s).g,o,none⟩=cur[o]?:=by rw [cell_of_heap h1]
    rw [hc]
    by_cases hi:o < (m s).base * (m s).sz∨((m s).base + (st.b s).row.len) * (m s).sz≤o
    · exact hsp hn0 ⟨es,he⟩ o hi k n
    · have hlo:(m s).base * (m s).sz≤o:=by omega
      have hhi:o < ((m s).base + (st.b s).row.len) * (m s).sz:=by omega
      have hsz:0 < (m s).sz:=by
        rcases Nat.eq_zero_or_pos (m s).sz with h0|h0
        · rw [h0] at hhi;omega
        · exact h0
      have hdm:=Nat.div_add_mod o (m s).sz
      have hmod:=Nat.mod_lt o hsz
      have hq1:(m s).base≤o / (m s).sz:=(Nat.le_div_iff_mul_le hsz).2 hlo
      have hq2:o / (m s).sz < (m s).base + (st.b s).row.len:=(Nat.div_lt_iff_lt_mul hsz).2 hhi
      obtain ⟨V,v1,v2,v3,v4⟩:=h2 (o / (m s).sz - (m s).base) (by omega)
      have hq:(m s).base + (o / (m s).sz - (m s).base)=o / (m s).sz:=by omega
      have h4:=v4 (o % (m s).sz) hmod
      rw [hq,Nat.mul_comm,hdm] at h4
      rw [h4]
      have hlen:o / (m s).sz - (m s).base < es.length:=by
        have:(st.b s).row.len=es.length:=by rw [he];rfl
        omega
      obtain ⟨b1,b2⟩:=hcl _ hlen
      have hg:(st.b s).row.get (o / (m s).sz - (m s).base)=es.getD (o / (m s).sz - (m s).base) .bad:=by rw [he];rfl
      rw [hg] at v1
      intro e
      have hjs:o % (m s).sz < V.cells.size:=by rw [v2];exact hmod
      generalize hv:es.getD (o / (m s).sz - (m s).base) .bad=v at v1 b1 b2
      by_cases h1:v.one=true
      · obtain ⟨k1,k2⟩:=v1.one h1
        rw [k2] at e hjs
        have hj0:o % (m s).sz=0:=by simp at hjs;exact hjs
        rw [hj0] at e
        have:V = .int k n:=by simpa using e
        subst this
        cases v1 <;> simp [noIL,AV.cells,AV.isBad] at b1 b2
      · cases v <;> simp [AV.one] at h1 <;> simp [AV.isBad] at b1
        · rename_i cs
          obtain ⟨vs,rfl,c1,c2,c3⟩:=v1.cell
          have hjc:o % (m s).sz < cs.length:=by rw [c1];exact hjs
          obtain ⟨n1,n2⟩:=noIL_at (show noIL cs=true from b2) hjc
          have e:vs[o % (m s).sz]?=some (.int k n):=e
          have:=(c3 _ hjc).not_int n1 n2 k n
          rw [Array.getD_eq_getD_getElem?,e] at this
          exact this rfl
        · rename_i cs
          cases v1 with
          | tup _ vs g1 g2 =>
            have:=v3 (.tuple vs) (by simp [Value.cells])
            simp [Value.oneCell'] at this
theorem pu_callN (h:SRx c I m st a w) {o:Oper} {x:Operand} {args:Array Operand} {ats:Array TypeId} {f:FuncId} {caps vs as res:List AV} {ss:List Nat} (ho:o.op = .call ⟨.value x,args,ats⟩)
    (hx:Ev st x (.fn f caps)) (hv:EvL st args.toList vs) (hsn:SnapL st ss (vs ++ caps) as) (hcs:CS P f as .no res) (hn:NoI P st ss) (hsh:Sh (AV.mk res)):Gives P c st (AV.mk res) o a w:=by
  obtain ⟨cv,e1,e2,e3⟩:=call_pre h hx hv hsn
  intro K Q hK
  have hA : ∀ k,(I k∨slotI st m ss k)→k < w.heap.size:=fun k hk=>hk.elim (fun hk=>(h.wr.imm k hk).1) (slot_lt h.wr)
  refine wp_call (exec_call ho e1) ((hcs (fun k=>I k∨slotI st m ss k) none w m _ (fun _=>rfl) (WR.fresh _ w m hA) e2 fun i hi=>e3 noB m i hi).mono ?_)
  rintro v w' ⟨I',m',hw,_,hvr⟩
  have hbel:=hw.below
  have h2:=h.grow hbel
  have hlt : ∀ s,((st.b s).mode = .own∨(st.b s).mode = .win)→¬ ((m s).cap=0∧(st.b s).row.len=0)→(m s).g < w.heap.size:=fun s hs hz=>by
    rcases h.wr.blk s (fun e=>by rcases hs with h|h <;> rw [e] at h <;> cases h) with h0|⟨cur,h3,_⟩
    · exact absurd h0 hz
    · exact lt_of_some h3
  refine hK v w' (fun k=>I k∨(I' k∧(I k∨w.heap.size≤k))) m ⟨h2.wr.read (fun _ k=>.inl k) (fun k hk=>?_) (fun s hs hz hi=>?_),h2.def0,h2.sz,fun x=>(h2.tmp x).grow (fun _ k=>.inl k) fun _ _=>rfl⟩ (hsh.vr hvr fun b o k n hb hc=>?_)
  · rcases hk with hk|⟨hk,hk2⟩
    · exact ⟨(h2.wr.imm k hk).1,(h2.wr.imm k hk).2⟩
    · rcases hk2 with hk2|hk2
      · exact ⟨(h2.wr.imm k hk2).1,(h2.wr.imm k hk2).2⟩
      · exact ⟨(hw.imm k hk).1, .inr (Nat.le_trans h.wr.size hk2)⟩
  · rintro (hk|⟨_,hk⟩)
    · exact hi hk
    · rcases hk with hk|hk
      · exact hi hk
      · exact absurd (hlt s hs hz) (Nat.not_lt.2 hk)
  · rcases (hw.imm b hb).2 with (hi|hi)|hi
    · exact .inl hi
    · exfalso
      have hbl:=slot_lt h.wr hi
      have e:w'.cell? ⟨b,o,none⟩=w.cell? ⟨b,o,none⟩:=World.cell?_of_block (a:=⟨b,o,none⟩) (hbel.block b hbl)
      rw [e] at hc
      exact slot_noI h hn hi hc
    · exact .inr ⟨hb, .inr hi⟩
theorem pu_callF (h:SRx c I m st a w) {o:Oper} {d:Nat} {x:Operand} {args:Array Operand} {ats:Array TypeId} {f:FuncId} {caps vs as:List AV} {ss:List Nat} {row:Row} {e:TypeId} {pre post:List AV} (ho:o.op = .call ⟨.value x,args,ats⟩)
    (hx:Ev st x (.fn f caps)) (hv:EvL st args.toList vs) (hsn:SnapL st ss (vs ++ caps) as) (hcs:CS P f as ⟨none,some (row,e)⟩ (pre ++ .os FRS 1 0 row.len true :: post)) (hrc:RowCl row) (hss:ss = []∨RowFlat row) (hpre:FlL pre) (hpost:FlL post) :
    Gives P c (st.putb d ⟨(st.b d).ver + 1, .own,row,e⟩) (AV.mk (pre ++ .os d ((st.b d).ver + 1) 0 row.len true :: post)) o a w:=by
  obtain ⟨cv,e1,e2,e3⟩:=call_pre h hx hv hsn
  intro K Q hK
  have hA : ∀ k,(I k∨slotI st m ss k)→k < w.heap.size:=fun k hk=>hk.elim (fun hk=>(h.wr.imm k hk).1) (slot_lt h.wr)
  refine wp_call (exec_call ho e1) ((hcs (fun k=>I k∨slotI st m ss k) none w m _ (fun _=>rfl) (WR.fresh _ w m hA) e2 fun i hi=>e3 noB m i hi).mono ?_)
  rintro v w' ⟨I',m',hw,_,hvr⟩
  have hB:Io.bOut ⟨none,some (row,e)⟩ FRS=⟨1, .own,row,e⟩:=upd_same noB FRS _
  have hbr:=hw.blk FRS (by rw [hB];simp)
  rw [hB] at hbr
  obtain ⟨I2,hs2,hI2,hold,hrow⟩ : ∃ I2:Nat→Prop,SRx c I2 m st a w'∧(∀ k,I2 k→k < w.heap.size∨I' k)∧True ∧
      (∀ cur b s,RowR I' w' (Io.bOut ⟨none,some (row,e)⟩) m' row cur b s→RowR I2 w' st.b m row cur b s):=by
    rcases hss with hss|hfl
    · refine ⟨_,h.after hw hss,fun k hk=>hk.elim (fun hk=>.inl (h.wr.imm k hk).1) .inr,trivial,fun cur b s hr i hi=>?_⟩
      obtain ⟨V,h1,h2,h3,h4⟩:=hr i hi
      refine ⟨V,?_,h2,h3,h4⟩
      have hc:Cl (row.get i):=by cases row with|ints k l=>exact .int|vals es=>exact hrc i hi
      exact hc.vr h1 (fun _ k=>.inr k) fun _ _ _=>rfl
    · refine ⟨I,h.grow hw.below,fun k hk=>.inl (h.wr.imm k hk).1,trivial,fun cur b s hr i hi=>?_⟩
      obtain ⟨V,h1,h2,h3,h4⟩:=hr i hi
      refine ⟨V,?_,h2,h3,h4⟩
      have hc:Flat (row.get i):=by cases row with|ints k l=>exact .int|vals es=>exact hfl i hi
      exact hc.vr h1
  have hown:(m' FRS).cap≠0→∃ cur,w'.heap[(m' FRS).g]?=some (.cells cur e (0,0))∧RowR I' w' (Io.bOut ⟨none,some (row,e)⟩) m' row cur (m' FRS).base (m' FRS).sz∧BM (P:=P) ⟨0,w,fun k=>I k∨slotI st m ss k,none⟩ I' ⟨1, .own,row,e⟩ (m' FRS) cur :=
    fun hc=>hbr.resolve_left fun h0=>hc h0.1
  refine hK v w' I2 (upd m d (m' FRS)) (hs2.slot (Nat.lt_succ_self _) (fun _=>?_) fun hc s hs ha=>?_) ?_
  · rcases hbr with h0|⟨cur,h1,h2,h3⟩
    · exact .inl h0
    · refine .inr ⟨cur,h1,hrow _ _ _ h2,?_⟩
      obtain ⟨b1,b2,b3,b4,b5,b6⟩:=h3
      refine ⟨b1,b2,b3,b4,fun hi=>?_,Nat.le_trans h.wr.size b6⟩
      rcases hI2 _ hi with hi|hi
      · exact absurd hi (Nat.not_lt.2 b6)
      · exact b5 hi
  · obtain ⟨cur,h1,h2,h3⟩:=hown hc
    obtain ⟨b1,b2,b3,b4,b5,b6⟩:=h3
    exact Nat.ne_of_lt (Nat.lt_of_lt_of_le (h.wr.own_lt ha) b6)
  · refine mk_swap hpre hpost (fun v hvr=>?_) hvr
    obtain ⟨ad,cap,rfl,k0,k⟩:=VR.os_inv (show VR I' w' (Io.bOut ⟨none,some (row,e)⟩) m' (.os FRS 1 0 row.len true) v from hvr)
    rw [hB] at k
    obtain ⟨k1,k2,k3,k4⟩:=k rfl (by simp)
    have e0:(st.putb d ⟨(st.b d).ver + 1, .own,row,e⟩).b d=⟨(st.b d).ver + 1, .own,row,e⟩:=upd_same _ _ _
    refine .os d _ 0 _ true ad cap ?_ ?_
    · rw [e0]
      exact Nat.le_refl _
    · rw [e0,upd_same]
      intro _ _
      refine ⟨by simp,k2,?_,k4⟩
      rcases k3 with k3|k3
      · exact .inl k3
      · exact .inr k3
theorem Pu.sound (h:SRx c I m st a w) {o:Oper} {d:Nat} {v:AV} {ob:Option Blk} {R:List Nat} (hp:Pu P st d o.op v ob R):Gives P c (st.putob d ob) v o a w:=by
  generalize ho:o.op=op at hp
  cases hp with
  | move hx=>exact gives_value h (by simp [execOp,ho]) (hx.vr h)
  | assign hx=>exact gives_value h (by simp [execOp,ho]) (hx.vr h)
  | pickT hx hy=>exact gives_value h (by simp [execOp,ho,(hx.vr h).bool_inv,asBool]) (hy.vr h)
  | pickF hx hy=>exact gives_value h (by simp [execOp,ho,(hx.vr h).bool_inv,asBool]) (hy.vr h)
  | @pickB x y z b p q hx hy hz =>
    refine gives_value h (V:=.bool (bif b then p else q)) ?_ (.bool _)
    cases b <;> simp [execOp,ho,(hx.vr h).bool_inv,(hy.vr h).bool_inv,(hz.vr h).bool_inv,asBool]
  | alloc=>exact pu_alloc h ‹_› ho
  | box hx hv hl=>exact pu_box h ‹_› hx hv hl ho
  | load hx hu hm hq=>exact pu_load h ‹_› ho hx hu hm hq
  | loadR hx hq=>exact pu_loadR h ‹_› ho hx hq
  | fieldA hd hf hs hx he=>subst he;exact pu_fieldA h ‹_› ho hd hf hs hx
  | fieldR hd hf hs hx he=>subst he;exact pu_fieldR h ‹_› ho hd hf hs hx
  | @indexI t i e ie x y k l k' n ht he hd h1 hx hy h0 hn=>exact pu_indexI h ht he ho hd h1 hx hy h0 hn
  | @indexV t i e ie x y es k' n ht he hd h1 hx hy h0 hn=>exact pu_indexV h ht he ho hd h1 hx hy h0 hn
  | @indexO t i e ie x y s u off len full k' n j ht he hd hx hu hm hy h0 hn hj h1=>subst hj;exact pu_indexO h ht he ho hd hx hu hm hy h0 hn h1
  | @sliceI t i e ie x k l lo hi mx p q r ht he hd h1 hx hlo hhi hmx hpq hq hr=>subst hr;exact pu_sliceI h ht he ho hd h1 hx hlo hhi hmx hpq hq
  | @sliceV t i e ie x es lo hi mx p q r ht he hd h1 hx hlo hhi hmx hpq hq hr=>subst hr;exact pu_sliceV h ht he ho hd h1 hx hlo hhi hmx hpq hq
  | @sliceO t i e ie x s u off len full lo hi mx p q off' len' ht he hd hx hu hm h1 hlo hhi hmx hpq hq h2 h3=>subst h2;subst h3;exact pu_sliceO h ht he ho hd hx hu hm h1 hlo hhi hmx hpq hq
  | ext hh =>
    obtain ⟨V,h1,h2⟩:=hh st (fun _ _ _ h=>h) (fun _ _=>rfl) c I m a w o ho h
    exact gives_value h h1 h2
  | @sliceS t i x s lo hi p q ht hd hx hlo hhi hpq hq=>exact pu_sliceS h ht ho hd hx hlo hhi hpq hq
  | @indexS t i x y s k n ht hd hx hy h0 hn=>exact pu_indexS h ht ho hd hx hy h0 hn
  | @build t i fs parts r ht hd hb=>exact pu_build h ht ho hd hb
  | @litO t i e ie len parts vs row ht he hd hp hl hsm hs hsz hr=>exact pu_litO h ht he ho hd hp hl hsm hs hsz hr
  | @extract x vs i v hx hi =>
    have:=hx.vr h
    generalize hX:a.eval x=X at this
    cases this with
    | tup _ us h1 h2 =>
      have hlt:i < vs.length:=(List.getElem?_eq_some_iff.1 hi).1
      have h3:=h2 i hlt
      rw [List.getD_eq_getElem?_getD,hi] at h3
      refine gives_value h (V:=us.getD i undef) ?_ h3
      simp [execOp,ho,hX,Instr.extract,h1 ▸ hlt]
  | @bin op t x y v u r t' hx hy hb =>
    obtain ⟨V,h1,h2⟩:=hb.run (P:=P) (ox:=x) (oy:=y) (hx.vr h) (hy.vr h)
    refine gives_value h (V:=V) ?_ h2
    have e:execOp a.eval o=(do pure (.value (← (do eqGuard op t x y (a.eval x) (a.eval y);binOp op t (a.eval x) (a.eval y):Sem Value))):Sem Next):=by unfold execOp;rw [ho]
    rw [e,Sem.run_bind,h1]
    rfl
  | @un op t x v r hx hu =>
    obtain ⟨V,h1,h2⟩:=hu.run (P:=P) (hx.vr h)
    exact gives_value h (V:=V) (by simp [execOp,ho,h1]) h2
  | @convI s t i j x k k' n hs ht hd hx =>
    obtain ⟨inf,ds,z,F⟩:=ht.facts
    obtain ⟨inf',ds',z',F'⟩:=hs.facts
    have e1:=td_int (F.dd.symm.trans hd)
    have hu:=F.und
    rw [e1] at hu
    have e2:=(hx.vr h).int_inv
    exact gives_value h (V:=.int k' (k'.wrap n)) (by simp [execOp,ho,e2,convert,run_underlying hu,run_underlying F'.und,Conv.intToInt]) (.int _ _)
  | @convS s t i j x b hs ht hd hd' hx =>
    obtain ⟨inf,ds,z,F⟩:=ht.facts
    obtain ⟨inf',ds',z',F'⟩:=hs.facts
    have e1:=td_str (F.dd.symm.trans hd')
    have hu:=F.und
    rw [e1] at hu
    have e1':=td_str (F'.dd.symm.trans hd)
    have hu':=F'.und
    rw [e1'] at hu'
    have e2:=(hx.vr h).str_inv
    exact gives_value h (V:=.string b) (by simp [execOp,ho,e2,convert,run_underlying hu,run_underlying hu']) (.str _)
  | @lenI t i e x k l ht hd hx =>
    obtain ⟨inf,ds,z,F⟩:=ht.facts
    have hu:=F.und
    rw [td_sl (F.dd.symm.trans hd)] at hu
    obtain ⟨ad,cap,e1,_⟩:=(hx.vr h).fi_inv
    exact gives_value h (V:=.int .i64 l.length) (by simp [execOp,ho,resolve,invoke,builtin,e1,Builtin.len_,run_underlying hu,goInt]) (.int _ _)
  | @lenV t i e x es ht hd hx =>
    obtain ⟨inf,ds,z,F⟩:=ht.facts
    have hu:=F.und
    rw [td_sl (F.dd.symm.trans hd)] at hu
    obtain ⟨ad,cap,sz,U,e1,_⟩:=(hx.vr h).fv_inv
    exact gives_value h (V:=.int .i64 es.length) (by simp [execOp,ho,resolve,invoke,builtin,e1,Builtin.len_,run_underlying hu,goInt]) (.int _ _)
  | @lenO t i e x s u off len full ht hd hx =>
    obtain ⟨inf,ds,z,F⟩:=ht.facts
    have hu:=F.und
    rw [td_sl (F.dd.symm.trans hd)] at hu
    obtain ⟨ad,cap,e1,_⟩:=(hx.vr h).os_inv
    exact gives_value h (V:=.int .i64 len) (by simp [execOp,ho,resolve,invoke,builtin,e1,Builtin.len_,run_underlying hu,goInt]) (.int _ _)
  | @lenS t i x s ht hd hx =>
    obtain ⟨inf,ds,z,F⟩:=ht.facts
    have hu:=F.und
    rw [td_str (F.dd.symm.trans hd)] at hu
    exact gives_value h (V:=.int .i64 s.size) (by simp [execOp,ho,resolve,invoke,builtin,(hx.vr h).str_inv,Builtin.len_,run_underlying hu,goInt]) (.int _ _)
  | @max x y k k' p q ts hx hy =>
    exact gives_value h (V:=.int k (if q > p then q else p)) (by simp [execOp,ho,resolve,invoke,builtin,(hx.vr h).int_inv,(hy.vr h).int_inv,run_max_int2]) (.int _ _)
  | @min x y k k' p q ts hx hy =>
    exact gives_value h (V:=.int k (if q < p then q else p)) (by simp [execOp,ho,resolve,invoke,builtin,(hx.vr h).int_inv,(hy.vr h).int_inv,run_min_int2]) (.int _ _)
  | nilC hx =>
    obtain ⟨ad,e,_⟩:=(hx.vr h).op_inv
    exact gives_value h (V:=.pointer (some ad)) (by simp [execOp,ho,e]) (e ▸ hx.vr h)
  | nilCR hx =>
    obtain ⟨V,b,q,e,_⟩:=(hx.vr h).fp_inv
    exact gives_value h (V:=.pointer (some ⟨b,q + _,none⟩)) (by simp [execOp,ho,e]) (e ▸ hx.vr h)
  | makeI hd hk hx hy h0 hpq hb h63=>exact pu_makeI h ‹_› ‹_› ho hd hk hx hy h0 hpq hb h63
  | makeV hd hs hx hy h0 hpq hb h63=>exact pu_makeV h ‹_› ‹_› ho hd hs hx hy h0 hpq hb h63
  | call hx hv hsn hcs hss hcl=>exact pu_call h ho hx hv hsn hcs hss hcl
  | callN hx hv hsn hcs hn hsh=>exact pu_callN h ho hx hv hsn hcs hn hsh
  | callF pre post hx hv hsn hcs hrc hss h1 h2=>exact pu_callF h ho hx hv hsn hcs hrc hss h1 h2
end
end Go.AVL
end

section
namespace Go.AVL
open Go.RowKit
set_option linter.unusedVariables false
set_option linter.unusedSimpArgs false
theorem maxLen_eq:maxLen=9223372036854775807:=by decide
def Blk.setRow (b:Blk) (r:Row):Blk:=⟨b.ver,b.mode,r,b.e⟩
def Blk.kill (b:Blk):Blk:=⟨b.ver, .dead,b.row,b.e⟩
section
variable {P : Program} {c : Ctx P} {I : Nat → Prop} {m : Nat → Reg} {w w' : World} {st : St} {a : Act} {B : Nat → Blk}
theorem WR.notI (h:WR c I m B w) {s:Nat} (ha:act B m s) : ¬ I (m s).g:=by
  have hd:(B s).mode≠.dead:=by intro e;rcases ha.1 with h|h <;> rw [e] at h <;> cases h
  rcases h.blk s hd with h0|⟨cur,_,_,h3⟩
  · exact absurd h0.1 ha.2
  · unfold BM at h3
    rcases ha.1 with h|h <;> rw [h] at h3
    · exact h3.2.2.2.2.1
    · exact h3.1
theorem WR.write (h:WR c I m B w) {s:Nat} {row':Row} {cur cur':Array Value} (ha:act B m s)
    (hg:w.heap[(m s).g]?=some (.cells cur (B s).e (0,0))) (hg':w'.heap[(m s).g]?=some (.cells cur' (B s).e (0,0)))
    (hsz:cur'.size=cur.size) (hout : ∀ i,(i < (m s).base * (m s).sz∨((m s).base + (B s).row.len) * (m s).sz≤i)→cur'[i]?=cur[i]?)
    (hos:w'.os=w.os) (htp:w'.tape=w.tape) (hop:w'.output=w.output) (hsize:w.heap.size≤w'.heap.size) (hk : ∀ k,k < w.heap.size→k≠(m s).g→w'.heap[k]?=w.heap[k]?)
    (hkind:(∃ es,row' = .vals es)→∃ es,(B s).row = .vals es) (hlen:row'.len=(B s).row.len) (hrow:RowR I w' B m row' cur' (m s).base (m s).sz) :
    WR c I m (upd B s ((B s).setRow row')) w'∧∀ v V,VR I w B m v V→VR I w' (upd B s ((B s).setRow row')) m v V:=by
  have hnI:=h.notI ha
  have hB : ∀ s' u,u≤(B s').ver→u≤(upd B s ((B s).setRow row') s').ver∧((upd B s ((B s).setRow row') s').ver=u→(upd B s ((B s).setRow row') s').mode≠.dead →
      (B s').ver=u∧(B s').mode≠.dead∧(upd B s ((B s).setRow row') s').row.len=(B s').row.len∧m s'=m s'):=by
    intro s' u hu
    by_cases e:s'=s
    · subst e;rw [upd_same];exact ⟨hu,fun e1 e2=>⟨e1,e2,hlen,rfl⟩⟩
    · rw [upd_ne _ _ e];exact ⟨hu,fun e1 e2=>⟨e1,e2,rfl,rfl⟩⟩
  have hvr : ∀ v V,VR I w B m v V→VR I w' (upd B s ((B s).setRow row')) m v V:=fun v V hv =>
    hv.mono (fun _ k=>k) (fun k o hi=>World.cell?_of_block (w:=w) (w':=w') (a:=⟨k,o,none⟩) (hk k (h.imm k hi).1 fun e=>hnI (e ▸ hi))) hB
  have hvr' : ∀ v V,VR I w' B m v V→VR I w' (upd B s ((B s).setRow row')) m v V:=fun v V hv=>hv.mono (fun _ k=>k) (fun _ _ _=>rfl) hB
  refine ⟨⟨hos.trans h.os,htp.trans h.tape,hop.trans h.output,Nat.le_trans h.size hsize,fun k hk0 hw=>?_,fun g lo hi hw=>?_,fun k hi=>⟨Nat.lt_of_lt_of_le (h.imm k hi).1 hsize,(h.imm k hi).2⟩,fun s' hd=>?_,fun s1 s2 h1 h2 e=>?_⟩,hvr⟩
  · have hd:(B s).mode≠.dead:=by intro e;rcases ha.1 with h|h <;> rw [e] at h <;> cases h
    rcases h.blk s hd with h0|⟨cur0,_,_,h3⟩
    · exact absurd h0.1 ha.2
    · have hne:k≠(m s).g:=by
        rintro rfl
        unfold BM at h3
        rcases ha.1 with hm|hm <;> rw [hm] at h3
        · exact absurd hk0 (Nat.not_lt.2 h3.2.2.2.2.2)
        · exact hw (by rw [h3.2.2.1];rfl)
      rw [hk k (Nat.lt_of_lt_of_le hk0 h.size) hne]
      exact h.frame k hk0 hw
  · obtain ⟨cur0,cur1,e,e1,e2,e3,e4⟩:=h.frameW g lo hi hw
    by_cases hgg:g=(m s).g
    · subst hgg
      have hd:(B s).mode≠.dead:=by intro e;rcases ha.1 with h|h <;> rw [e] at h <;> cases h
      rcases h.blk s hd with h0|⟨cur2,k1,_,h3⟩
      · exact absurd h0.1 ha.2
      · rw [hg] at e2
        obtain ⟨rfl,rfl⟩:cur=cur1∧(B s).e=e:=by simpa using e2
        unfold BM at h3
        rcases ha.1 with hm|hm <;> rw [hm] at h3
        · exact absurd (lt_of_some e1) (Nat.not_lt.2 h3.2.2.2.2.2)
        · have hwg:=h3.2.2.1
          rw [hw] at hwg
          simp only [Option.some.injEq,Prod.mk.injEq] at hwg
          obtain ⟨-,rfl,rfl⟩:=hwg
          exact ⟨cur0,cur',_,e1,hg',hsz.trans e3,fun i hi=>(hout i hi).trans (e4 i hi)⟩
    · exact ⟨cur0,cur1,e,e1,(hk g (lt_of_some e2) hgg).trans e2,e3,e4⟩
  · by_cases e:s'=s
    · subst e
      rw [upd_same] at hd ⊢
      rcases h.blk s' hd with h0|⟨cur0,k1,k2,h3⟩
      · exact absurd h0.1 ha.2
      · right
        rw [hg] at k1
        obtain rfl:cur=cur0:=by simpa using k1
        refine ⟨cur',hg',hrow.mono hvr',?_⟩
        unfold BM at h3 ⊢
        have hmm:((B s').setRow row').mode=(B s').mode:=rfl
        have hrr:((B s').setRow row').row=row':=rfl
        rcases ha.1 with hm|hm <;> simp only [hm,hmm,hrr] at h3 ⊢
        · refine ⟨⟨fun hn hv i hi k n=>?_,h3.1.2⟩,hsz.trans h3.2.1,hlen ▸ h3.2.2.1,h3.2.2.2⟩
          have hi':i < (m s').base * (m s').sz∨((m s').base + (B s').row.len) * (m s').sz≤i:=by rw [← hlen];exact hi
          rw [hout i hi']
          exact h3.1.1 hn (hkind hv) i hi' k n
        · rw [hlen]
          exact ⟨h3.1,h3.2.1,h3.2.2.1,by rw [hsz];exact h3.2.2.2⟩
    · have e2:upd B s ((B s).setRow row') s'=B s':=upd_ne _ _ e
      rw [e2] at hd ⊢
      rcases h.blk s' hd with h0|⟨cur0,k1,k2,h3⟩
      · exact .inl h0
      · by_cases hz:(m s').cap=0∧(B s').row.len=0
        · exact .inl hz
        right
        have hne:(m s').g≠(m s).g:=by
          intro hgg
          unfold BM at h3
          cases hm:(B s').mode with
          | dead=>exact hd hm
          | own =>
            rw [hm] at h3
            refine e (h.inj s' s ⟨.inl hm,fun hc=>hz ⟨hc,?_⟩⟩ ha hgg)
            have:=h3.2.2.1
            omega
          | win =>
            rw [hm] at h3
            refine e (h.inj s' s ⟨.inr hm,fun hc=>hz ⟨hc,?_⟩⟩ ha hgg)
            have:=h3.2.1
            omega
          | froz =>
            rw [hm] at h3
            exact hnI (hgg ▸ h3)
        exact ⟨cur0,(hk _ (lt_of_some k1) hne).trans k1,k2.mono hvr,h3⟩
  · refine h.inj s1 s2 ?_ ?_ e
    · unfold act at h1 ⊢
      by_cases e1:s1=s
      · subst e1;rw [upd_same] at h1;exact h1
      · rw [upd_ne _ _ e1] at h1;exact h1
    · unfold act at h2 ⊢
      by_cases e1:s2=s
      · subst e1;rw [upd_same] at h2;exact h2
      · rw [upd_ne _ _ e1] at h2;exact h2
theorem WR.kill (h:WR c I m B w) (s:Nat):WR c I m (upd B s (B s).kill) w∧∀ v V,VR I w B m v V→VR I w (upd B s (B s).kill) m v V:=by
  have hB : ∀ s' u,u≤(B s').ver→u≤(upd B s (B s).kill s').ver∧((upd B s (B s).kill s').ver=u→(upd B s (B s).kill s').mode≠.dead →
      (B s').ver=u∧(B s').mode≠.dead∧(upd B s (B s).kill s').row.len=(B s').row.len∧m s'=m s'):=by
    intro s' u hu
    by_cases e:s'=s
    · subst e;rw [upd_same];exact ⟨hu,fun _ e2=>absurd rfl e2⟩
    · rw [upd_ne _ _ e];exact ⟨hu,fun e1 e2=>⟨e1,e2,rfl,rfl⟩⟩
  have hvr : ∀ v V,VR I w B m v V→VR I w (upd B s (B s).kill) m v V:=fun v V hv=>hv.mono (fun _ k=>k) (fun _ _ _=>rfl) hB
  have hact : ∀ s1,act (upd B s (B s).kill) m s1→act B m s1:=by
    intro s1 h1
    unfold act at h1 ⊢
    by_cases e1:s1=s
    · subst e1;rw [upd_same] at h1;rcases h1.1 with h|h <;> cases h
    · rw [upd_ne _ _ e1] at h1;exact h1
  refine ⟨⟨h.os,h.tape,h.output,h.size,h.frame,h.frameW,h.imm,fun s' hd=>?_,fun s1 s2 h1 h2 e=>h.inj s1 s2 (hact s1 h1) (hact s2 h2) e⟩,hvr⟩
  by_cases e:s'=s
  · subst e;rw [upd_same] at hd;exact absurd rfl hd
  · have e2:upd B s (B s).kill s'=B s':=upd_ne _ _ e
    rw [e2] at hd ⊢
    rcases h.blk s' hd with h0|⟨cur0,k1,k2,h3⟩
    · exact .inl h0
    · exact .inr ⟨cur0,k1,k2.mono hvr,h3⟩
def memB:List Nat→Nat→Bool
  | [],_=>false
  | x :: xs,s=>match Nat.beq x s with|true=>true|false=>memB xs s
theorem memB_iff {ss:List Nat} {s:Nat}:memB ss s=true ↔ s ∈ ss:=by
  induction ss with
  | nil=>simp [memB]
  | cons x xs ih =>
    unfold memB
    split
    · rename_i h;have:=Nat.eq_of_beq_eq_true h;subst this;simp
    · rename_i h
      have hne:x≠s:=fun e=>by subst e;rw [Nat.beq_refl] at h;cases h
      rw [ih]
      simp [Ne.symm hne]
def Mode.fz:Mode→Mode
  | .dead=>.dead
  | _=>.froz
def frz (ss:List Nat) (B:Nat→Blk):Nat→Blk:=fun s=>match memB ss s with
  | true=>⟨(B s).ver,(B s).mode.fz,(B s).row,(B s).e⟩
  | false=>B s
theorem frz_facts (ss:List Nat) (B:Nat→Blk) (s:Nat):(frz ss B s).ver=(B s).ver∧(frz ss B s).row=(B s).row∧(frz ss B s).e=(B s).e∧((frz ss B s).mode = .dead ↔ (B s).mode = .dead) ∧
    (memB ss s=false→frz ss B s=B s)∧(memB ss s=true→(frz ss B s).mode=(B s).mode.fz):=by
  unfold frz
  cases hm:memB ss s
  · simp
  · simp only [true_and,Bool.true_eq_false,false_implies,forall_const,and_true]
    cases (B s).mode <;> simp [Mode.fz]
def frzI (c:Ctx P) (I:Nat→Prop) (m:Nat→Reg) (B:Nat→Blk) (ss:List Nat) (k:Nat):Prop :=
  I k∨∃ s,s ∈ ss∧(B s).mode≠.dead∧¬ ((m s).cap=0∧(B s).row.len=0)∧(m s).g=k∧c.w0.heap.size≤k
theorem WR.freeze (h:WR c I m B w) (ss:List Nat) (hnw : ∀ s,s ∈ ss→(B s).mode≠.win) :
    WR c (frzI c I m B ss) m (frz ss B) w∧∀ v V,VR I w B m v V→VR (frzI c I m B ss) w (frz ss B) m v V:=by
  have hwin : ¬ ∃ s,s ∈ ss∧(B s).mode = .win:=fun ⟨s,h1,h2⟩=>hnw s h1 h2
  have hB : ∀ s' u,u≤(B s').ver→u≤(frz ss B s').ver∧((frz ss B s').ver=u→(frz ss B s').mode≠.dead→(B s').ver=u∧(B s').mode≠.dead∧(frz ss B s').row.len=(B s').row.len∧m s'=m s'):=by
    intro s' u hu
    obtain ⟨f1,f2,f3,f4,f5,f6⟩:=frz_facts ss B s'
    rw [f1,f2]
    exact ⟨hu,fun e1 e2=>⟨e1,fun e=>e2 (f4.2 e),rfl,rfl⟩⟩
  have hvr : ∀ v V,VR I w B m v V→VR (frzI c I m B ss) w (frz ss B) m v V :=
    fun v V hv=>hv.mono (fun _ k=>.inl k) (fun _ _ _=>rfl) hB
  have hcap : ∀ s cur,BM c I (B s) (m s) cur→((B s).mode = .own∨(B s).mode = .win)→(m s).cap=0→(B s).row.len=0:=by
    intro s cur h3 hm hc
    unfold BM at h3
    rcases hm with hm|hm <;> rw [hm] at h3
    · have:=h3.2.2.1;omega
    · have:=h3.2.1;omega
  refine ⟨⟨h.os,h.tape,h.output,h.size,h.frame,h.frameW,fun k hk=>?_,fun s' hd=>?_,fun s1 s2 h1 h2 e=>?_⟩,hvr⟩
  · rcases hk with hk|⟨s,hs,hd,hz,rfl,hn⟩
    · exact h.imm k hk
    · refine ⟨?_, .inr hn⟩
      rcases h.blk s hd with h0|⟨cur,h3,_⟩
      · exact absurd h0 hz
      · exact lt_of_some h3
  · obtain ⟨f1,f2,f3,f4,f5,f6⟩:=frz_facts ss B s'
    have hd':(B s').mode≠.dead:=fun e=>hd (f4.2 e)
    rcases h.blk s' hd' with h0|⟨cur0,k1,k2,h3⟩
    · exact .inl (by rw [f2];exact h0)
    · by_cases hz:(m s').cap=0∧(B s').row.len=0
      · exact .inl (by rw [f2];exact hz)
      right
      rw [f2,f3]
      refine ⟨cur0,k1,k2.mono hvr,?_⟩
      cases hm:memB ss s' with
      | true =>
        have hmem:=memB_iff.1 hm
        have hmode:=f6 hm
        unfold BM
        cases hmo:(B s').mode with
        | dead=>exact absurd hmo hd'
        | win=>exact absurd ⟨s',hmem,hmo⟩ hwin
        | own =>
          rw [hmode,hmo]
          unfold BM at h3
          rw [hmo] at h3
          exact .inr ⟨s',hmem,hd',hz,rfl,h3.2.2.2.2.2⟩
        | froz =>
          rw [hmode,hmo]
          unfold BM at h3
          rw [hmo] at h3
          exact .inl h3
      | false =>
        rw [f5 hm]
        have hni:((B s').mode = .own∨(B s').mode = .win)→¬ I (m s').g→¬ (I (m s').g∨∃ s,s ∈ ss∧(B s).mode≠.dead∧¬ ((m s).cap=0∧(B s).row.len=0)∧(m s).g=(m s').g∧c.w0.heap.size≤(m s').g):=by
          rintro hmo hn (hi|⟨s,hs,hsd,hsz,hsg,_⟩)
          · exact hn hi
          · have hc':(m s').cap≠0:=fun hc=>hz ⟨hc,hcap s' cur0 h3 hmo hc⟩
            rcases h.blk s hsd with h0|⟨cur1,_,_,h4⟩
            · exact hsz h0
            · cases hms:(B s).mode with
              | dead=>exact hsd hms
              | win=>exact hwin ⟨s,hs,hms⟩
              | own =>
                have hc:(m s).cap≠0:=fun hc=>hsz ⟨hc,hcap s cur1 h4 (.inl hms) hc⟩
                have:=h.inj s s' ⟨.inl hms,hc⟩ ⟨hmo,hc'⟩ hsg
                subst this
                rw [memB_iff.2 hs] at hm
                cases hm
              | froz =>
                unfold BM at h4
                rw [hms] at h4
                exact hn (hsg ▸ h4)
        unfold BM at h3 ⊢
        cases hmo:(B s').mode <;> rw [hmo] at h3 hni <;> simp only at h3 ⊢
        · exact ⟨h3.1,h3.2.1,h3.2.2.1,h3.2.2.2.1,hni (.inl rfl) h3.2.2.2.2.1,h3.2.2.2.2.2⟩
        · exact ⟨hni (.inr rfl) h3.1,h3.2⟩
        · exact .inl h3
  · have hx : ∀ s,act (frz ss B) m s→act B m s:=by
      intro s hs
      obtain ⟨f1,f2,f3,f4,f5,f6⟩:=frz_facts ss B s
      unfold act at hs ⊢
      cases hm:memB ss s with
      | true =>
        rw [f6 hm] at hs
        cases hmo:(B s).mode <;> rw [hmo] at hs <;> simp [Mode.fz] at hs
      | false=>rw [f5 hm] at hs;exact hs
    exact h.inj s1 s2 (hx s1 h1) (hx s2 h2) e
end
end Go.AVL
end

section
namespace Go.AVL
open Go.RowKit
set_option linter.unusedVariables false
set_option linter.unusedSimpArgs false
inductive PutV:AV→Nat→AV→AV→Prop
  | whole {e v}:e.isBad=false→v.cells.length=e.cells.length→PutV e 0 v v
  | part {cs o v r}:PutL cs o v.cells r→PutV (.agg cs) o v (.agg r)
inductive RowSet:Row→Nat→AV→Row→Prop
  | ints {k l j n}:RowSet (.ints k l) j (.int k n) (.ints k (l.set j n))
  | one {e v}:RowSet (.vals [e]) 0 v (.vals [v])
  | vals {es j v}:RowSet (.vals es) j v (.vals (es.set j v))
theorem RowSet.spec {r r':Row} {j:Nat} {v:AV} (h:RowSet r j v r') (hj:j < r.len):r'.len=r.len∧r'.get j=v∧∀ i,i≠j→r'.get i=r.get i:=by
  cases h with
  | @ints k l j n =>
    have hj':j < l.length:=hj
    exact ⟨by simp [Row.len],by simp [Row.get,List.getD,hj'],fun i hi=>by simp [Row.get,List.getD,List.getElem?_set_ne (Ne.symm hi)]⟩
  | one=>exact ⟨rfl,rfl,fun i hi=>by cases i with|zero=>exact absurd rfl hi|succ i=>rfl⟩
  | @vals es j v =>
    have hj':j < es.length:=hj
    exact ⟨by simp [Row.len],by simp [Row.get,List.getD,hj'],fun i hi=>by simp [Row.get,List.getD,List.getElem?_set_ne (Ne.symm hi)]⟩
theorem RowSet.kind {r r':Row} {j:Nat} {v:AV} {es:List AV} (h:RowSet r j v r') (e:r' = .vals es) : ∃ es,r = .vals es:=by
  cases h with
  | ints=>cases e
  | one=>exact ⟨_,rfl⟩
  | vals=>exact ⟨_,rfl⟩
inductive RowOf:AV→Row→Prop
  | fi {k l}:RowOf (.fi k l) (.ints k l)
  | fv {es}:RowOf (.fv es) (.vals es)
inductive RowApp:Row→Row→Row→Prop
  | ints {k l l'}:RowApp (.ints k l) (.ints k l') (.ints k (l ++ l'))
  | vals {es es'}:RowApp (.vals es) (.vals es') (.vals (es ++ es'))
theorem RowApp.kind {r r2 r':Row} {es:List AV} (h:RowApp r r2 r') (e:r' = .vals es) : ∃ es,r = .vals es:=by
  cases h with
  | ints=>cases e
  | vals=>exact ⟨_,rfl⟩
inductive RowWin:Row→Nat→Nat→Row→Prop
  | ints {k l off len}:RowWin (.ints k l) off len (.ints k ((l.drop off).take len))
  | intsF {k l}:RowWin (.ints k l) 0 l.length (.ints k l)
inductive RowSpl:Row→Nat→Nat→Row→Row→Prop
  | ints {k l off len l'}:l'.length=len→RowSpl (.ints k l) off len (.ints k l') (.ints k (l.take off ++ l' ++ l.drop (off + len)))
  | intsF {k l l'}:l'.length=l.length→RowSpl (.ints k l) 0 l.length (.ints k l') (.ints k l')
inductive Ef (P:Program) (st:St) (d:Nat):Op→AV→(Nat→Blk)→Prop
  | store {t i x y s u j o v e1 row'} [h:TI P t i]:Ev st x (.op s u j o)→(st.b s).ver=u→((st.b s).mode = .own∨(st.b s).mode = .win)→Ev st y v→v.inVar=true→v.cells.length=i.size →
      PutV ((st.b s).row.get j) o v e1→RowSet (st.b s).row j e1 row'→Ef P st d (.store t x y) .bad (upd st.b s ((st.b s).setRow row'))
  | append {t i e ie x y s u len ss v a2 r2 row} [h:TI P t i] [h':TI P e ie]:i.d = .sl e→0 < ie.size→Ev st x (.os s u 0 len true)→(st.b s).ver=u→(st.b s).mode = .own→(st.b s).e=e→len=(st.b s).row.len→Ev st y v→Snap st ss v a2→RowOf a2 r2 →
      (∀ j,j < r2.len→szOk ie.size (r2.get j))→RowApp (st.b s).row r2 row→row.len≤maxLen→row.len * ie.bytes≤140737488355328 →
      Ef P st d (.call ⟨.builtin .append,#[x,y],#[t,t]⟩) (.os d ((st.b d).ver + 1) 0 row.len true) (upd (upd st.b s (st.b s).kill) d ⟨(st.b d).ver + 1, .own,row,e⟩)
  | callZ {x args ats f caps vs as res ss}:Ev st x (.fn f caps)→EvL st args.toList vs→SnapL st ss (vs ++ caps) as→CS P f as .no res→Cl (AV.mk res)→(∀ s,s ∈ ss→(st.b s).mode≠.win) →
      Ef P st d (.call ⟨.value x,args,ats⟩) (AV.mk res) (frz ss st.b)
  | callI {x args ats f caps vs as res ss p s u off len full rin rout row' e}:Ev st x (.fn f caps)→EvL st args.toList vs→p < (vs ++ caps).length→(vs ++ caps).getD p .bad = .os s u off len full →
      vs.length + caps.length=as.length→(∀ i,i < as.length→i≠p→Snap st ss ((vs ++ caps).getD i .bad) (as.getD i .bad))→as.getD p .bad = .os p 1 0 len false→s ∉ ss →
      (st.b s).ver=u→((st.b s).mode = .own∨(st.b s).mode = .win)→(st.b s).e=e→RowWin (st.b s).row off len rin→RowSpl (st.b s).row off len rout row' →
      CS P f as ⟨some (p,rin,rout,e),none⟩ res→Flat (AV.mk res) →
      Ef P st d (.call ⟨.value x,args,ats⟩) (AV.mk res) (upd st.b s ((st.b s).setRow row'))
  | take {x s u len row e}:Ev st x (.os s u 0 len true)→s≠d→(st.b s).ver=u→(st.b s).mode = .own→(st.b s).row=row→(st.b s).e=e →
      Ef P st d (.assign x) (.os d ((st.b d).ver + 1) 0 len true) (upd (upd st.b s (st.b s).kill) d ⟨(st.b d).ver + 1, .own,row,e⟩)
  | cut {x s u off len full row e}:Ev st x (.os s u off len full)→(st.b s).ver=u→(st.b s).mode = .own→(st.b s).e=e→RowWin (st.b s).row off len row →
      Ef P st d (.assign x) (.os d ((st.b d).ver + 1) 0 len false) (upd (upd st.b s (st.b s).kill) d ⟨(st.b d).ver + 1, .own,row,e⟩)
  | ext {op v b}:(∀ (c:Ctx P) (o:Oper) (a:Act) (w:World),o.op=op→∀ I m,SRx c I m st a w→Gives P c ⟨st.t,b⟩ v o a w)→Ef P st d op v b
  | nilO {row e}:row.len=0→Ef P st d (.assign (.const (.slice none 0 0))) (.os d ((st.b d).ver + 1) 0 0 true) (upd st.b d ⟨(st.b d).ver + 1, .own,row,e⟩)
section
variable {P : Program} {c : Ctx P} {I : Nat → Prop} {m : Nat → Reg} {w w' : World} {st : St} {a : Act} {B : Nat → Blk}
theorem alive_of {b:Blk} (h:b.mode = .own∨b.mode = .win):b.mode≠.dead:=by intro e;rcases h with h|h <;> rw [e] at h <;> cases h
theorem WR.act_of (h:WR c I m B w) {s j:Nat} (hm:(B s).mode = .own∨(B s).mode = .win) (hj:j < (B s).row.len):act B m s∧∃ cur,w.heap[(m s).g]?=some (.cells cur (B s).e (0,0)) ∧
    RowR I w B m (B s).row cur (m s).base (m s).sz∧BM c I (B s) (m s) cur:=by
  rcases h.blk s (alive_of hm) with h0|⟨cur,h1,h2,h3⟩
  · omega
  · refine ⟨⟨hm,fun hc=>?_⟩,cur,h1,h2,h3⟩
    unfold BM at h3
    rcases hm with hm|hm <;> rw [hm] at h3
    · have:=h3.2.2.1;omega
    · have:=h3.2.1;omega
theorem BM.size {s:Nat} {cur:Array Value} (h:BM c I (B s) (m s) cur) (hm:(B s).mode = .own∨(B s).mode = .win):((m s).base + (B s).row.len) * (m s).sz≤cur.size:=by
  unfold BM at h
  rcases hm with hm|hm <;> rw [hm] at h
  · rw [h.2.1]
    exact Nat.mul_le_mul_right _ (Nat.add_le_add_left h.2.2.1 _)
  · exact h.2.2.2
theorem mid_get {α:Type} (xs ys:List α) (o i:Nat) (h:o + ys.length≤xs.length):(xs.take o ++ ys ++ xs.drop (o + ys.length))[i]?=if o≤i∧i < o + ys.length then ys[i - o]? else xs[i]?:=by
  have hl:(xs.take o).length=o:=by simp;omega
  by_cases h1:i < o
  · rw [if_neg (by omega),List.append_assoc,List.getElem?_append_left (by omega),List.getElem?_take,if_pos h1]
  · by_cases h2:i < o + ys.length
    · rw [if_pos ⟨by omega,h2⟩,List.getElem?_append_left (by simp;omega),List.getElem?_append_right (by omega),hl]
    · rw [if_neg (by omega),List.getElem?_append_right (by simp;omega),List.getElem?_drop]
      simp only [List.length_append,hl]
      congr 1
      omega
theorem ef_store (h:SRx c I m st a w) {o:Oper} {t:TypeId} {i:TInfo} (ht:TI P t i) {x y:Operand} {s u j off:Nat} {v e1:AV} {row':Row} (ho:o.op = .store t x y)
    (hx:Ev st x (.op s u j off)) (hu:(st.b s).ver=u) (hm:(st.b s).mode = .own∨(st.b s).mode = .win) (hy:Ev st y v) (hiv:v.inVar=true) (hl:v.cells.length=i.size)
    (hp:PutV ((st.b s).row.get j) off v e1) (hr:RowSet (st.b s).row j e1 row'):Gives P c ⟨st.t,upd st.b s ((st.b s).setRow row')⟩ .bad o a w:=by
  obtain ⟨ad,e,k0,k⟩:=(hx.vr h).op_inv
  obtain ⟨rfl,hj⟩:=k hu (alive_of hm)
  obtain ⟨hact,cur,hg,hrow,hbm⟩:=h.wr.act_of hm hj
  obtain ⟨V0,v1,v2,v3,v4⟩:=hrow j hj
  have hV:=(hy.vr h).vl hiv
  obtain ⟨r1,r2,r3⟩:=hr.spec hj
  have hfit:=hbm.size hm
  obtain ⟨V1,q1,q2,q3,q4,q5⟩ : ∃ V1,VR I w st.b m e1 V1∧V1.cells.size=(m s).sz∧(∀ u ∈ V1.cells.toList,u.oneCell'=true)∧off + (a.eval y).cells.size≤(m s).sz ∧
      ∀ jj,V1.cells[jj]?=if off≤jj∧jj < off + (a.eval y).cells.size then (a.eval y).cells[jj - off]? else V0.cells[jj]?:=by
    generalize he0:(st.b s).row.get j=e0 at hp v1
    cases hp with
    | whole hb hlen =>
      have hs:(a.eval y).cells.size=(m s).sz:=by rw [← hV.1,hlen,← v1.cells_size hb,v2]
      refine ⟨a.eval y,hy.vr h,hs,hV.2.1,by omega,fun jj=>?_⟩
      by_cases hjj:jj < (a.eval y).cells.size
      · rw [if_pos (by omega)];rfl
      · rw [if_neg (by omega),Array.getElem?_eq_none (by omega),Array.getElem?_eq_none (by omega)]
    | @part cs o' v' r hpl =>
      obtain ⟨vs,rfl,c1,c2,c3⟩:=v1.cell
      obtain ⟨p1,p2,p3⟩:=hpl.spec
      have hle:off + (a.eval y).cells.size≤vs.size:=by rw [← hV.1,← c1];exact p2
      obtain ⟨z1,z2⟩:=put_arr off (a.eval y).cells vs hle
      have hvs:vs.size=(m s).sz:=v2
      have hVL:=VL.put ⟨c1,c2,c3⟩ hV hpl z1 z2
      exact ⟨.agg _,hVL.agg,z1.trans hvs,hVL.2.1,by omega,fun jj=>z2 jj⟩
  have hsto:=run_storeCells_at P (m s).g (((m s).base + j) * (m s).sz + off) (st.b s).e (a.eval y).cells.toList 0 cur w hg (by
    have:((m s).base + j + 1) * (m s).sz≤((m s).base + (st.b s).row.len) * (m s).sz:=Nat.mul_le_mul_right _ (by omega)
    rw [Nat.add_mul ((m s).base + j)] at this
    simp only [Array.length_toList]
    omega) hV.2.1
  simp only [Nat.add_zero] at hsto
  obtain ⟨inf,ds,z,F⟩:=ht.facts
  have hsize:(a.eval y).cells.size=inf.size:=by rw [← hV.1,hl,F.size]
  have hex:(execOp a.eval o).run P w = .ok .skip (w.setRow (m s).g (cur.toList.take (((m s).base + j) * (m s).sz + off) ++ (a.eval y).cells.toList ++ cur.toList.drop (((m s).base + j) * (m s).sz + off + (a.eval y).cells.toList.length)).toArray):=by
    simp only [Array.length_toList] at hsto ⊢
    simp [execOp,ho,e,Instr.storeAt,Instr.sureAddr,storeVar,run_size F.info,hsize,hsto]
  have hcur : ∀ x,(cur.toList.take (((m s).base + j) * (m s).sz + off) ++ (a.eval y).cells.toList ++ cur.toList.drop (((m s).base + j) * (m s).sz + off + (a.eval y).cells.toList.length)).toArray[x]? =
      if ((m s).base + j) * (m s).sz + off≤x∧x < ((m s).base + j) * (m s).sz + off + (a.eval y).cells.size then (a.eval y).cells[x - (((m s).base + j) * (m s).sz + off)]? else cur[x]?:=by
    intro x
    rw [List.getElem?_toArray,mid_get _ _ _ _ (by
      have:((m s).base + j + 1) * (m s).sz≤((m s).base + (st.b s).row.len) * (m s).sz:=Nat.mul_le_mul_right _ (by omega)
      rw [Nat.add_mul ((m s).base + j)] at this
      simp only [Array.length_toList]
      omega)]
    simp only [Array.length_toList,Array.getElem?_toList]
  generalize hcn:(cur.toList.take (((m s).base + j) * (m s).sz + off) ++ (a.eval y).cells.toList ++ cur.toList.drop (((m s).base + j) * (m s).sz + off + (a.eval y).cells.toList.length)).toArray=cur' at hex hcur
  have hin:(((m s).base + j) * (m s).sz + off) + (a.eval y).cells.size≤((m s).base + (st.b s).row.len) * (m s).sz:=by
    have:((m s).base + j + 1) * (m s).sz≤((m s).base + (st.b s).row.len) * (m s).sz:=Nat.mul_le_mul_right _ (by omega)
    rw [Nat.add_mul ((m s).base + j)] at this
    omega
  have hcs:cur'.size=cur.size:=by
    rw [← hcn]
    simp only [List.size_toArray,List.length_append,List.length_take,List.length_drop,Array.length_toList]
    omega
  have hlow:(m s).base * (m s).sz≤((m s).base + j) * (m s).sz + off:=by
    have:(m s).base * (m s).sz≤((m s).base + j) * (m s).sz:=Nat.mul_le_mul_right _ (by omega)
    omega
  obtain ⟨hw,hvr⟩:=h.wr.write (w':=w.setRow (m s).g cur') (row':=row') hact hg (setRow_heap w _ cur cur' _ _ hg) hcs (fun x hxx=>by rw [hcur x,if_neg (by omega)]) rfl rfl rfl
    (by simp [World.setRow]) (fun k hk hne=>setRow_other w _ k cur' hne) (fun ⟨es,e⟩=>hr.kind e) r1 (fun jj hjj=>by
      rw [r1] at hjj
      have tr : ∀ v V,VR I w st.b m v V→VR I (w.setRow (m s).g cur') st.b m v V:=fun v V hv=>hv.grow (fun _ k=>k) fun k hk=>setRow_other w _ k cur' fun e=>h.wr.notI hact (e ▸ hk)
      by_cases hjx:jj=j
      · subst hjx
        refine ⟨V1,by rw [r2];exact tr _ _ q1,q2,q3,fun jx hjx=>?_⟩
        rw [hcur,q5 jx]
        by_cases hc:off≤jx∧jx < off + (a.eval y).cells.size
        · rw [if_pos hc,if_pos (by omega)];congr 1;omega
        · rw [if_neg hc,if_neg (by omega)];exact v4 jx hjx
      · obtain ⟨V2,t1,t2,t3,t4⟩:=hrow jj hjj
        refine ⟨V2,by rw [r3 jj hjx];exact tr _ _ t1,t2,t3,fun jx hjx2=>?_⟩
        rw [hcur,if_neg,t4 jx hjx2]
        rcases Nat.lt_or_gt_of_ne hjx with hlt|hgt
        · have:((m s).base + jj + 1) * (m s).sz≤((m s).base + j) * (m s).sz:=Nat.mul_le_mul_right _ (by omega)
          rw [Nat.add_mul ((m s).base + jj)] at this
          omega
        · have:((m s).base + j + 1) * (m s).sz≤((m s).base + jj) * (m s).sz:=Nat.mul_le_mul_right _ (by omega)
          rw [Nat.add_mul ((m s).base + j)] at this
          omega)
  intro K Q hK
  unfold Oper.wp
  rw [hex]
  exact hK undef _ I m ⟨hw,h.def0,h.sz,fun x=>hvr _ _ (h.tmp x)⟩ (.bad _)
theorem ef_take (h:SRx c I m st a w) {o:Oper} {d:Nat} {x:Operand} {s u len:Nat} (ho:o.op = .assign x) (hx:Ev st x (.os s u 0 len true)) (hsd:s≠d) (hu:(st.b s).ver=u) (hm:(st.b s).mode = .own) :
    Gives P c ⟨st.t,upd (upd st.b s (st.b s).kill) d ⟨(st.b d).ver + 1, .own,(st.b s).row,(st.b s).e⟩⟩ (.os d ((st.b d).ver + 1) 0 len true) o a w:=by
  obtain ⟨ad,cap,e,k0,k⟩:=(hx.vr h).os_inv
  obtain ⟨k1,k2,k3,k4⟩:=k hu (by rw [hm];simp)
  obtain ⟨hk,hkv⟩:=h.wr.kill s
  have hb:=h.wr.blk s (by rw [hm];simp)
  have ed:upd st.b s (st.b s).kill d=st.b d:=upd_ne _ _ (Ne.symm hsd)
  have hkx:SRx c I m ⟨st.t,upd st.b s (st.b s).kill⟩ a w:=⟨hk,h.def0,h.sz,fun y=>hkv _ _ (h.tmp y)⟩
  have hs2:=hkx.slot (d:=d) (b:=⟨(st.b d).ver + 1, .own,(st.b s).row,(st.b s).e⟩) (r:=m s) (by show (upd st.b s (st.b s).kill d).ver < _;rw [ed];exact Nat.lt_succ_self _) (fun _=>by
    rcases hb with h0|⟨cur,h1,h2,h3⟩
    · exact .inl h0
    · refine .inr ⟨cur,h1,h2.mono hkv,?_⟩
      unfold BM at h3 ⊢
      rw [hm] at h3
      exact h3) (fun hc s1 hs1 ha hgg=>by
    unfold act at ha
    by_cases e1:s1=s
    · subst e1
      rw [show (⟨st.t,upd st.b s1 (st.b s1).kill⟩:St).b s1=(st.b s1).kill from upd_same _ _ _] at ha
      rcases ha.1 with h|h <;> cases h
    · rw [show (⟨st.t,upd st.b s (st.b s).kill⟩:St).b s1=st.b s1 from upd_ne _ _ e1] at ha
      exact e1 (h.wr.inj s1 s ha ⟨.inl hm,hc⟩ hgg))
  intro K Q hK
  unfold Oper.wp
  have hex:(execOp a.eval o).run P w = .ok (.value (.slice ad len cap)) w:=by simp [execOp,ho,e]
  rw [hex]
  refine hK _ w I _ hs2 ?_
  have e0:(St.putb ⟨st.t,upd st.b s (st.b s).kill⟩ d ⟨(st.b d).ver + 1, .own,(st.b s).row,(st.b s).e⟩).b d=⟨(st.b d).ver + 1, .own,(st.b s).row,(st.b s).e⟩:=upd_same _ _ _
  refine .os d _ 0 len true ad cap ?_ ?_
  · show _≤((St.putb ⟨st.t,upd st.b s (st.b s).kill⟩ d ⟨(st.b d).ver + 1, .own,(st.b s).row,(st.b s).e⟩).b d).ver
    rw [e0];exact Nat.le_refl _
  · show ((St.putb ⟨st.t,upd st.b s (st.b s).kill⟩ d ⟨(st.b d).ver + 1, .own,(st.b s).row,(st.b s).e⟩).b d).ver=_→((St.putb ⟨st.t,upd st.b s (st.b s).kill⟩ d ⟨(st.b d).ver + 1, .own,(st.b s).row,(st.b s).e⟩).b d).mode≠_→_≤((St.putb ⟨st.t,upd st.b s (st.b s).kill⟩ d ⟨(st.b d).ver + 1, .own,(st.b s).row,(st.b s).e⟩).b d).row.len∧_
    rw [e0,upd_same]
    intro _ _
    exact ⟨k1,k2,k3,k4⟩
theorem ef_nilO (h:SRx c I m st a w) {o:Oper} {d:Nat} {row:Row} {e:TypeId} (ho:o.op = .assign (.const (.slice none 0 0))) (hr:row.len=0) :
    Gives P c ⟨st.t,upd st.b d ⟨(st.b d).ver + 1, .own,row,e⟩⟩ (.os d ((st.b d).ver + 1) 0 0 true) o a w:=by
  have hs2:=h.slot (d:=d) (b:=⟨(st.b d).ver + 1, .own,row,e⟩) (r:=⟨0,0,0,0⟩) (Nat.lt_succ_self _) (fun _=>.inl ⟨rfl,hr⟩) (fun hc=>absurd rfl hc)
  intro K Q hK
  unfold Oper.wp
  have hex:(execOp a.eval o).run P w = .ok (.value (.slice none 0 0)) w:=by simp [execOp,ho,Act.eval]
  rw [hex]
  refine hK _ w I _ hs2 ?_
  refine .os d _ 0 0 true none 0 ?_ ?_
  · show _≤(upd st.b d _ d).ver
    rw [upd_same];exact Nat.le_refl _
  · show (upd st.b d _ d).ver=_→(upd st.b d _ d).mode≠_→_
    rw [upd_same]
    intro _ _
    exact ⟨Nat.zero_le _,Nat.le_refl _, .inl rfl,fun _=>⟨rfl,by rw [upd_same];exact ⟨rfl,rfl⟩⟩⟩
theorem ef_callZ (h:SRx c I m st a w) {o:Oper} {x:Operand} {args:Array Operand} {ats:Array TypeId} {f:FuncId} {caps vs as res:List AV} {ss:List Nat} (ho:o.op = .call ⟨.value x,args,ats⟩)
    (hx:Ev st x (.fn f caps)) (hv:EvL st args.toList vs) (hsn:SnapL st ss (vs ++ caps) as) (hcs:CS P f as .no res) (hcl:Cl (AV.mk res)) (hnw : ∀ s,s ∈ ss→(st.b s).mode≠.win) :
    Gives P c ⟨st.t,frz ss st.b⟩ (AV.mk res) o a w:=by
  obtain ⟨cv,e1,e2,e3⟩:=call_pre h hx hv hsn
  intro K Q hK
  have hA : ∀ k,(I k∨slotI st m ss k)→k < w.heap.size:=fun k hk=>hk.elim (fun hk=>(h.wr.imm k hk).1) (slot_lt h.wr)
  refine wp_call (exec_call ho e1) ((hcs (fun k=>I k∨slotI st m ss k) none w m _ (fun _=>rfl) (WR.fresh _ w m hA) e2 fun i hi=>e3 noB m i hi).mono ?_)
  rintro v w' ⟨I',m',hw,_,hvr⟩
  have h2:=h.grow hw.below
  obtain ⟨hf,hfv⟩:=h2.wr.freeze ss hnw
  have hsl : ∀ k,slotI st m ss k→frzI c I m st.b ss k:=by
    rintro k ⟨s,hs,hd,hz,rfl⟩
    rcases h2.wr.blk s hd with h0|⟨cur,h3,_,h4⟩
    · exact absurd h0 hz
    · unfold BM at h4
      cases hmo:(st.b s).mode with
      | dead=>exact absurd hmo hd
      | win=>exact absurd hmo (hnw s hs)
      | own =>
        rw [hmo] at h4
        exact .inr ⟨s,hs,hd,hz,rfl,h4.2.2.2.2.2⟩
      | froz =>
        rw [hmo] at h4
        exact .inl h4
  have hf2:WR c (fun k=>frzI c I m st.b ss k∨I' k) m (frz ss st.b) w':=by
    refine hf.read (fun _ k=>.inl k) (fun k hk=>?_) (fun s hs hz hi=>?_)
    · rcases hk with hk|hk
      · exact hf.imm k hk
      · refine ⟨(hw.imm k hk).1,?_⟩
        rcases (hw.imm k hk).2 with (hi|hi)|hi
        · exact (h.wr.imm k hi).2
        · exact (hf.imm k (hsl k hi)).2
        · exact .inr (Nat.le_trans h.wr.size hi)
    · rintro (hk|hk)
      · exact hi hk
      · have hd:(frz ss st.b s).mode≠.dead:=alive_of hs
        obtain ⟨f1,f2,f3,f4,f5,f6⟩:=frz_facts ss st.b s
        have hlt:(m s).g < w.heap.size:=by
          rcases h.wr.blk s (fun e=>hd (f4.2 e)) with h0|⟨cur,h3,_⟩
          · exact absurd (by rw [f2];exact h0) hz
          · exact lt_of_some h3
        rcases (hw.imm _ hk).2 with (hi'|hi')|hi'
        · exact hi (.inl hi')
        · exact hi (hsl _ hi')
        · exact absurd hlt (Nat.not_lt.2 hi')
  exact hK v w' _ m ⟨hf2,h.def0,h.sz,fun y=>(hfv _ _ (h2.tmp y)).grow (fun _ k=>.inl k) fun _ _=>rfl⟩ (hcl.vr hvr (fun _ k=>.inr k) fun _ _ _=>rfl)
end
end Go.AVL
end

section
namespace Go.AVL
open Go.RowKit
set_option linter.unusedVariables false
set_option linter.unusedSimpArgs false
section
variable {P : Program} {c : Ctx P} {I : Nat → Prop} {m : Nat → Reg} {w w' : World} {st : St} {a : Act} {B : Nat → Blk}
theorem WR.scribble (h:WR c I m B w) {g:Nat} (hI : ¬ I g) (ha : ∀ s,act B m s→(m s).g≠g) (hn:c.w0.heap.size≤g) (hos:w'.os=w.os) (htp:w'.tape=w.tape) (hop:w'.output=w.output)
    (hsize:w.heap.size≤w'.heap.size) (hk : ∀ k,k < w.heap.size→k≠g→w'.heap[k]?=w.heap[k]?):WR c I m B w'∧∀ v V,VR I w B m v V→VR I w' B m v V:=by
  have hvr : ∀ v V,VR I w B m v V→VR I w' B m v V:=fun v V hv=>hv.grow (fun _ k=>k) fun k hi=>hk k (h.imm k hi).1 fun e=>hI (e ▸ hi)
  refine ⟨⟨hos.trans h.os,htp.trans h.tape,hop.trans h.output,Nat.le_trans h.size hsize,fun k hk0 hw=>?_,fun g' lo hi hw=>?_,fun k hi=>⟨Nat.lt_of_lt_of_le (h.imm k hi).1 hsize,(h.imm k hi).2⟩,fun s' hd=>?_,h.inj⟩,hvr⟩
  · rw [hk k (Nat.lt_of_lt_of_le hk0 h.size) (by omega)]
    exact h.frame k hk0 hw
  · obtain ⟨cur0,cur,e,e1,e2,e3,e4⟩:=h.frameW g' lo hi hw
    have:=lt_of_some e1
    exact ⟨cur0,cur,e,e1,(hk g' (lt_of_some e2) (by omega)).trans e2,e3,e4⟩
  · rcases h.blk s' hd with h0|⟨cur0,k1,k2,h3⟩
    · exact .inl h0
    · by_cases hz:(m s').cap=0∧(B s').row.len=0
      · exact .inl hz
      right
      have hne:(m s').g≠g:=by
        intro hgg
        unfold BM at h3
        cases hm:(B s').mode with
        | dead=>exact hd hm
        | own=>rw [hm] at h3;exact ha s' ⟨.inl hm,fun hc=>hz ⟨hc,by have:=h3.2.2.1;omega⟩⟩ hgg
        | win=>rw [hm] at h3;exact ha s' ⟨.inr hm,fun hc=>hz ⟨hc,by have:=h3.2.1;omega⟩⟩ hgg
        | froz=>rw [hm] at h3;exact hI (hgg ▸ h3)
      exact ⟨cur0,(hk _ (lt_of_some k1) hne).trans k1,k2.mono hvr,h3⟩
def Els (I:Nat→Prop) (w:World) (B:Nat→Blk) (m:Nat→Reg) (r:Row) (V:Value):Prop :=
  ∃ (ad:Option Addr) (cap:Nat) (Vs:List Value),V = .slice ad r.len cap∧Vs.length=r.len∧(∀ i,i < r.len→VR I w B m (r.get i) (Vs.getD i undef)∧∀ u ∈ (Vs.getD i undef).cells.toList,u.oneCell'=true) ∧
    (0 < r.len→∃ x:Addr,ad=some x∧x.spot=none∧∃ sz,∀ i,i < r.len→(Vs.getD i undef).cells.size=sz∧∀ jj,jj < sz→w.cell? ⟨x.block,x.off + i * sz + jj,none⟩=(Vs.getD i undef).cells[jj]?)
theorem els_fi {k:IntKind} {l:List Int} {V:Value} (hv:VR I w B m (.fi k l) V):Els I w B m (.ints k l) V:=by
  obtain ⟨ad,cap,rfl,hc,hk⟩:=hv.fi_inv
  have hg : ∀ i,i < l.length→(l.map (Value.int k)).getD i undef = .int k (l.getD i 0):=fun i hi=>by simp [List.getD,hi]
  refine ⟨ad,cap,l.map (Value.int k),rfl,by simp [Row.len],fun i hi=>?_,fun h0=>?_⟩
  · rw [hg i hi]
    exact ⟨.int _ _,by simp [Value.cells,Value.oneCell']⟩
  · obtain ⟨x,rfl,hsp,_,_⟩:=hk 0 h0
    refine ⟨x,rfl,hsp,1,fun i hi=>?_⟩
    rw [hg i hi]
    refine ⟨rfl,fun jj hjj=>?_⟩
    obtain ⟨x',e,_,_,hcell⟩:=hk i hi
    cases e
    have:jj=0:=by omega
    subst this
    simpa [Value.cells] using hcell
theorem els_fv {es:List AV} {V:Value} (hv:VR I w B m (.fv es) V):Els I w B m (.vals es) V:=by
  obtain ⟨ad,cap,sz,U,rfl,hc,hU,hk⟩:=hv.fv_inv
  have hg : ∀ i,i < es.length→((List.range es.length).map U).getD i undef=U i:=fun i hi=>by simp [List.getD,hi]
  refine ⟨ad,cap,(List.range es.length).map U,rfl,by simp [Row.len],fun i hi=>?_,fun h0=>?_⟩
  · rw [hg i hi]
    exact ⟨hU i hi,(hk i hi).2.1⟩
  · obtain ⟨_,_,x,rfl,hsp,_⟩:=hk 0 h0
    refine ⟨x,rfl,hsp,sz,fun i hi=>?_⟩
    rw [hg i hi]
    obtain ⟨h1,_,x',e,_,_,hcell⟩:=hk i hi
    cases e
    exact ⟨h1,hcell⟩
theorem els_os (hw:WR c I m st.b w) {s u off len:Nat} {full:Bool} {V:Value} {r:Row} (hv:VR I w st.b m (.os s u off len full) V) (hu:(st.b s).ver=u) (hm:(st.b s).mode≠.dead)
    (hl:off + len≤(st.b s).row.len→r.len=len) (hr : ∀ i,i < len→off + len≤(st.b s).row.len→r.get i=(st.b s).row.get (off + i)):Els I w st.b m r V:=by
  obtain ⟨ad,cap,rfl,k0,k⟩:=hv.os_inv
  obtain ⟨k1,k2,k3,k4⟩:=k hu hm
  have hl':=hl k1
  have hx : ∀ i,i < len→∃ V',VR I w st.b m ((st.b s).row.get (off + i)) V'∧Var w (m s).g (((m s).base + (off + i)) * (m s).sz) V'∧V'.cells.size=(m s).sz∧∀ u ∈ V'.cells.toList,u.oneCell'=true :=
    fun i hi=>hw.var hm (by omega)
  have hg : ∀ i (hi:i < len),((List.range len).map fun i=>if hi:i < len then (hx i hi).choose else undef).getD i undef=(hx i hi).choose:=fun i hi=>by simp [List.getD,hi]
  refine ⟨ad,cap,(List.range len).map fun i=>if hi:i < len then (hx i hi).choose else undef,by rw [hl'],by simp [hl'],fun i hi=>?_,fun h0=>?_⟩
  · rw [hl'] at hi
    obtain ⟨j1,j2,j3,j4⟩:=(hx i hi).choose_spec
    rw [hg i hi,hr i hi k1]
    exact ⟨j1,j4⟩
  · rw [hl'] at h0
    refine ⟨_,k3.resolve_left (by omega),rfl,(m s).sz,fun i hi=>?_⟩
    rw [hl'] at hi
    obtain ⟨j1,j2,j3,j4⟩:=(hx i hi).choose_spec
    rw [hg i hi]
    refine ⟨j3,fun jj hjj=>?_⟩
    have:=j2 jj (by omega)
    rw [show ((m s).base + (off + i)) * (m s).sz + jj=((m s).base + off) * (m s).sz + i * (m s).sz + jj by rw [← Nat.add_mul,Nat.add_assoc]] at this
    exact this
theorem Snap.els (hw:WR c I m st.b w) {ss:List Nat} {v a2:AV} {r2:Row} (h:Snap st ss v a2) (hr:RowOf a2 r2) {V:Value} (hv:VR I w st.b m v V):Els I w st.b m r2 V:=by
  cases hr with
  | @fi k l =>
    cases h with
    | cl _=>exact els_fi hv
    | @osI s u off len full _ l' hs hu hm hrow =>
      refine els_os hw hv hu hm (fun h1=>?_) fun i hi h1=>?_
      · rw [hrow] at h1;simp [Row.len] at h1 ⊢;omega
      · rw [hrow];show AV.int k _=AV.int k _;rw [getD_take_drop hi]
    | @osIf s u len full _ l' hs hu hm hrow hl =>
      refine els_os hw hv hu hm (fun h1=>?_) fun i hi h1=>?_
      · exact hl.symm
      · rw [hrow,Nat.zero_add]
    | nilVI =>
      obtain ⟨ad,cap,sz,U,rfl,_⟩:=hv.fv_inv
      exact ⟨ad,cap,[],rfl,rfl,fun i hi=>absurd hi (Nat.not_lt_zero i),fun h=>absurd h (Nat.lt_irrefl 0)⟩
    | nilII =>
      obtain ⟨ad,cap,rfl,_⟩:=hv.fi_inv
      exact ⟨ad,cap,[],rfl,rfl,fun i hi=>absurd hi (Nat.not_lt_zero i),fun h=>absurd h (Nat.lt_irrefl 0)⟩
  | @fv es =>
    cases h with
    | cl _=>exact els_fv hv
    | @osV s u off len full es' hs hu hm hrow _ =>
      refine els_os hw hv hu hm (fun h1=>?_) fun i hi h1=>?_
      · rw [hrow] at h1;simp [Row.len] at h1 ⊢;omega
      · rw [hrow];show List.getD _ _ _=List.getD _ _ _;rw [getD_take_drop hi]
    | @osVf s u len full es' hs hu hm hrow _ hl =>
      refine els_os hw hv hu hm (fun h1=>?_) fun i hi h1=>?_
      · exact hl.symm
      · rw [hrow,Nat.zero_add]
    | nilIV =>
      obtain ⟨ad,cap,rfl,_⟩:=hv.fi_inv
      exact ⟨ad,cap,[],rfl,rfl,fun i hi=>absurd hi (Nat.not_lt_zero i),fun h=>absurd h (Nat.lt_irrefl 0)⟩
theorem RowApp.spec {r1 r2 r:Row} (h:RowApp r1 r2 r):r.len=r1.len + r2.len∧(∀ i,i < r1.len→r.get i=r1.get i)∧∀ i,i < r2.len→r.get (r1.len + i)=r2.get i:=by
  cases h with
  | @ints k l l' =>
    refine ⟨by simp [Row.len],fun i hi=>?_,fun i hi=>?_⟩
    · have hi':i < l.length:=hi
      simp [Row.get,List.getD,List.getElem?_append_left hi']
    · simp [Row.get,Row.len,List.getD,List.getElem?_append_right]
  | @vals l l' =>
    refine ⟨by simp [Row.len],fun i hi=>?_,fun i hi=>?_⟩
    · have hi':i < l.length:=hi
      simp [Row.get,List.getD,List.getElem?_append_left hi']
    · simp [Row.get,Row.len,List.getD,List.getElem?_append_right]
theorem flat_cell {sz:Nat} {x:Addr} (hsp:x.spot=none) : ∀ {Vs:List Value} (hsz : ∀ i,i < Vs.length→(Vs.getD i undef).cells.size=sz)
    (hc : ∀ i,i < Vs.length→∀ jj,jj < sz→w.cell? ⟨x.block,x.off + i * sz + jj,none⟩=(Vs.getD i undef).cells[jj]?) {j:Nat} {u:Value},(Vs.flatMap fun v=>v.cells.toList)[j]?=some u→w.cell? (x.add j)=some u:=by
  intro Vs hsz hc j u hj
  have hall : ∀ v ∈ Vs,v.cells.size=sz:=fun v hv=>by
    obtain ⟨i,hi,rfl⟩:=List.getElem_of_mem hv
    have:=hsz i hi
    rwa [show Vs.getD i undef=Vs[i] by simp [List.getD,hi]] at this
  have hlt:j < Vs.length * sz:=by
    have:=(List.getElem?_eq_some_iff.1 hj).1
    rwa [flat_len Vs hall] at this
  have hs0:0 < sz:=by
    rcases Nat.eq_zero_or_pos sz with h|h
    · subst h;omega
    · exact h
  have hi:j / sz < Vs.length:=Nat.div_lt_of_lt_mul (by rw [Nat.mul_comm];exact hlt)
  have hm:=Nat.mod_lt j hs0
  have e:j / sz * sz + j % sz=j:=by rw [Nat.mul_comm];exact Nat.div_add_mod j sz
  have h1:=flat_get Vs hall (j / sz) (j % sz) hi hm
  rw [e,hj] at h1
  have h2:=hc (j / sz) hi (j % sz) hm
  rw [addr_add x j hsp]
  rw [Nat.add_assoc,e] at h2
  rw [h2,← h1]
theorem run_append_none {t ty e:TypeId} {i:TypeInfo} (ht:P.underlying t=some (.slice e)) (hi:P.info? e=some i) (w:World) (ad ad2:Option Addr) (len cap cap2:Nat) (hc:len≤cap) :
    (Builtin.append_ #[t,t] ty #[.slice ad len cap, .slice ad2 0 cap2]).run P w = .ok (.slice ad len cap) w:=by
  cases ad <;> cases ad2 <;> simp [Builtin.append_,run_underlying ht,sizeOf,typeInfo,hi,Builtin.lenOf,hc,Builtin.firstCells,loadCells,loadCellsFrom,storeCells]
end
end Go.AVL
end

section
namespace Go.AVL
open Go.RowKit
set_option linter.unusedVariables false
set_option linter.unusedSimpArgs false
section
variable {P : Program} {c : Ctx P} {I : Nat → Prop} {m : Nat → Reg} {w w' : World} {st : St} {a : Act} {B : Nat → Blk}
theorem SRx.move (h:SRx c I m st a w) {s d:Nat} {row:Row} {e:TypeId} {r:Reg}
    (hbr:(r.cap=0∧row.len=0)∨∃ cur,w.heap[r.g]?=some (.cells cur e (0,0))∧RowR I w st.b m row cur r.base r.sz∧BM c I ⟨(st.b d).ver + 1, .own,row,e⟩ r cur)
    (hnew:r.cap≠0→∀ s',s'≠s→act st.b m s'→(m s').g≠r.g) :
    SRx c I (upd m d r) ⟨st.t,upd (upd st.b s (st.b s).kill) d ⟨(st.b d).ver + 1, .own,row,e⟩⟩ a w:=by
  obtain ⟨hk,hkv⟩:=h.wr.kill s
  have hkx:SRx c I m ⟨st.t,upd st.b s (st.b s).kill⟩ a w:=⟨hk,h.def0,h.sz,fun y=>hkv _ _ (h.tmp y)⟩
  have ed:(upd st.b s (st.b s).kill d).ver=(st.b d).ver:=by
    by_cases e:d=s
    · subst e;rw [upd_same];rfl
    · rw [upd_ne _ _ e]
  exact hkx.slot (d:=d) (b:=⟨(st.b d).ver + 1, .own,row,e⟩) (r:=r) (by show (upd st.b s (st.b s).kill d).ver < _;rw [ed];exact Nat.lt_succ_self _) (fun _=>by
    rcases hbr with h0|⟨cur,h1,h2,h3⟩
    · exact .inl h0
    · exact .inr ⟨cur,h1,h2.mono hkv,h3⟩) (fun hc s1 hs1 ha=>by
    unfold act at ha
    by_cases e1:s1=s
    · subst e1
      rw [show (⟨st.t,upd st.b s1 (st.b s1).kill⟩:St).b s1=(st.b s1).kill from upd_same _ _ _] at ha
      rcases ha.1 with h|h <;> cases h
    · rw [show (⟨st.t,upd st.b s (st.b s).kill⟩:St).b s1=st.b s1 from upd_ne _ _ e1] at ha
      exact hnew hc s1 e1 ha)
theorem VR.newOsV {b:Nat→Blk} {d u:Nat} {row:Row} {e:TypeId} {r:Reg} {ad:Option Addr} {cap:Nat} (hc:row.len≤cap) (had:cap=0∨ad=some ⟨r.g,r.base * r.sz,none⟩) (hcap:cap=r.cap) (hb0:r.base=0) :
    VR I w (upd b d ⟨u, .own,row,e⟩) (upd m d r) (.os d u 0 row.len true) (.slice ad row.len cap):=by
  refine .os d u 0 _ true ad cap ?_ ?_
  · rw [upd_same];exact Nat.le_refl _
  · rw [upd_same,upd_same]
    intro _ _
    exact ⟨by simp,hc,had.imp id (fun h=>by rw [h];simp),fun _=>⟨rfl,hcap,hb0⟩⟩
theorem rowR_app {row r1 r2:Row} {cur:Array Value} {sz:Nat} {Vs:List Value} (hra:RowApp r1 r2 row) (h1 : ∀ i,i < r1.len→∃ V,VR I w B m (r1.get i) V∧V.cells.size=sz∧(∀ u ∈ V.cells.toList,u.oneCell'=true)∧∀ j,j < sz→cur[i * sz + j]?=V.cells[j]?)
    (hl:Vs.length=r2.len) (h2 : ∀ i,i < r2.len→VR I w B m (r2.get i) (Vs.getD i undef)∧(Vs.getD i undef).cells.size=sz∧(∀ u ∈ (Vs.getD i undef).cells.toList,u.oneCell'=true)∧∀ j,j < sz→cur[(r1.len + i) * sz + j]?=(Vs.getD i undef).cells[j]?) :
    RowR I w B m row cur 0 sz:=by
  obtain ⟨e1,e2,e3⟩:=hra.spec
  intro i hi
  rw [Nat.zero_add]
  by_cases hc:i < r1.len
  · obtain ⟨V,k1,k2,k3,k4⟩:=h1 i hc
    exact ⟨V,by rw [e2 i hc];exact k1,k2,k3,k4⟩
  · have hi2:i - r1.len < r2.len:=by omega
    obtain ⟨k1,k2,k3,k4⟩:=h2 (i - r1.len) hi2
    rw [← e3 _ hi2] at k1
    rw [show r1.len + (i - r1.len)=i by omega] at k1 k4
    exact ⟨_,k1,k2,k3,k4⟩
theorem ef_append (h:SRx c I m st a w) {o:Oper} {d:Nat} {t e:TypeId} {i ie:TInfo} (ht:TI P t i) (he:TI P e ie) {x y:Operand} {s u len:Nat} {ss:List Nat} {v a2:AV} {r2 row:Row}
    (ho:o.op = .call ⟨.builtin .append,#[x,y],#[t,t]⟩) (hd:i.d = .sl e) (hs0:0 < ie.size) (hx:Ev st x (.os s u 0 len true)) (hu:(st.b s).ver=u) (hm:(st.b s).mode = .own) (hse:(st.b s).e=e) (hlen:len=(st.b s).row.len)
    (hy:Ev st y v) (hsn:Snap st ss v a2) (hro:RowOf a2 r2) (hszs : ∀ j,j < r2.len→szOk ie.size (r2.get j)) (hra:RowApp (st.b s).row r2 row) (hmax:row.len≤maxLen) (hbytes:row.len * ie.bytes≤140737488355328) :
    Gives P c ⟨st.t,upd (upd st.b s (st.b s).kill) d ⟨(st.b d).ver + 1, .own,row,e⟩⟩ (.os d ((st.b d).ver + 1) 0 row.len true) o a w:=by
  obtain ⟨inf,ds,z,F⟩:=ht.facts
  obtain ⟨ein,eds,ez,E⟩:=he.facts
  have e1:=td_sl (F.dd.symm.trans hd)
  have hut:=F.und
  rw [e1] at hut
  obtain ⟨ad,cap,ex,k0,k⟩:=(hx.vr h).os_inv
  obtain ⟨k1,k2,k3,k4⟩:=k hu (by rw [hm];simp)
  have hcap:=(k4 rfl).2.1
  have hbase:=(k4 rfl).2.2
  obtain ⟨ad2,cap2,Vs,ey,hVl,hVe,hVc⟩:=hsn.els h.wr hro (hy.vr h)
  obtain ⟨a1,a2',a3⟩:=hra.spec
  have hexec : ∀ {V:Value} {w':World},(Builtin.append_ #[t,t] o.type #[.slice ad len cap, .slice ad2 r2.len cap2]).run P w = .ok V w'→(execOp a.eval o).run P w = .ok (.value V) w':=by
    intro V w' hr
    simp [execOp,ho,resolve,invoke,builtin,ex,ey,hr]
  have hcell:P.cellsOf e=ie.size:=by rw [← E.size];simp [Program.cellsOf,E.info]
  have hold:0 < cap→∃ cur,w.heap[(m s).g]?=some (.cells cur e (0,0))∧RowR I w st.b m (st.b s).row cur 0 ie.size∧(m s).base=0∧(m s).sz=ie.size∧cur.size=cap * ie.size∧cap≤maxLen∧¬ I (m s).g∧c.w0.heap.size≤(m s).g∧Sp P (st.b s) (m s) cur:=by
    intro h0
    rcases h.wr.blk s (by rw [hm];simp) with hz|⟨cur,h1,h2,h3⟩
    · omega
    · unfold BM at h3
      rw [hm] at h3
      obtain ⟨⟨b1,b2⟩,b3,b4,b5,b6,b7⟩:=h3
      rw [hse,hcell] at b2
      rw [hse] at h1
      rw [hbase,b2] at h2
      exact ⟨cur,h1,h2,hbase,b2,by rw [b3,hbase,Nat.zero_add,← hcap,b2],by rw [hcap];exact b5,b6,b7,b1⟩
  by_cases hn:r2.len=0
  ·
    have hrl:row.len=len:=by omega
    have hrun:=run_append_none (P:=P) (ty:=o.type) hut E.info w ad ad2 len cap cap2 k2
    rw [hn] at hexec
    have hmv:=h.move (s:=s) (d:=d) (row:=row) (e:=e) (r:=m s) (by
      rcases h.wr.blk s (by rw [hm];simp) with hz|⟨cur,h1,h2,h3⟩
      · exact .inl ⟨hz.1,by omega⟩
      · refine .inr ⟨cur,hse ▸ h1,fun j hj=>?_,?_⟩
        · obtain ⟨V,j1,j2,j3,j4⟩:=h2 j (by omega)
          exact ⟨V,by rw [a2' j (by omega)];exact j1,j2,j3,j4⟩
        · unfold BM at h3 ⊢
          rw [hm] at h3
          simp only
          rw [hrl,hlen,← hse]
          refine ⟨⟨fun hn ⟨es,he⟩ i hi=>?_,h3.1.2⟩,h3.2⟩
          have hrr:row.len=(st.b s).row.len:=by omega
          have hi:i < (m s).base * (m s).sz∨((m s).base + row.len) * (m s).sz≤i:=hi
          rw [hrr] at hi
          exact h3.1.1 hn (hra.kind he) i hi) (fun hc s' hs' ha hgg=>hs' (h.wr.inj s' s ha ⟨.inl hm,hc⟩ hgg))
    intro K Q hK
    unfold Oper.wp
    rw [hexec hrun]
    refine hK _ w I _ hmv ?_
    rw [← hrl]
    exact VR.newOsV (by omega) (k3.imp id (fun h=>by rw [h];simp)) hcap hbase
  · obtain ⟨x2,rfl,hsp,sz2,hel⟩:=hVc (by omega)
    have hsz2:sz2=ie.size:=by
      have:=hel 0 (by omega)
      have k:=(hVe 0 (by omega)).1.cells_size (hszs 0 (by omega)).2
      rw [← this.1,k,(hszs 0 (by omega)).1]
    rw [hsz2] at hel
    have hall : ∀ v ∈ Vs,v.cells.size=ie.size:=fun v hv=>by
      obtain ⟨j,hj,rfl⟩:=List.getElem_of_mem hv
      have:=(hel j (by omega)).1
      rwa [show Vs.getD j undef=Vs[j] by simp [List.getD,hj]] at this
    have hnl:(Vs.flatMap fun v=>v.cells.toList).length=r2.len * ein.size:=by rw [flat_len Vs hall,hVl,E.size]
    have hnews : ∀ j v,(Vs.flatMap fun v=>v.cells.toList)[j]?=some v→w.cell? (x2.add j)=some v:=fun j v hj =>
      flat_cell hsp (fun i hi=>(hel i (by omega)).1) (fun i hi jj hjj=>(hel i (by omega)).2 jj hjj) hj
    have hone : ∀ v ∈ (Vs.flatMap fun v=>v.cells.toList),v.oneCell'=true:=by
      intro v hv
      obtain ⟨V,hV,hvV⟩:=List.mem_flatMap.1 hv
      obtain ⟨j,hj,rfl⟩:=List.getElem_of_mem hV
      have:=(hVe j (by omega)).2
      rw [show Vs.getD j undef=Vs[j] by simp [List.getD,hj]] at this
      exact this v hvV
    have hmx:row.len≤9223372036854775807:=by rw [← maxLen_eq];exact hmax
    have grown : ∀ (w1:World) (olds:List Value) (ncap:Nat),Below w.heap.size w (w1.alloc (.cells (olds.toArray ++ (Vs.flatMap fun v=>v.cells.toList).toArray ++ Builtin.zeroCells ez.cells (ncap - row.len)) e))→w1.heap.size=w.heap.size→w1.heap=w.heap →
        olds.length=len * ie.size→row.len≤ncap→ncap≤maxLen →
        (∀ j,j < len→∃ V,VR I w st.b m ((st.b s).row.get j) V∧V.cells.size=ie.size∧(∀ u ∈ V.cells.toList,u.oneCell'=true)∧∀ jj,jj < ie.size→olds[j * ie.size + jj]?=V.cells[jj]?) →
        ∀ (K:Act→World→Prop),(∀ V w' I' m',SRx c I' m' ⟨st.t,upd (upd st.b s (st.b s).kill) d ⟨(st.b d).ver + 1, .own,row,e⟩⟩ a w'→VR I' w' (upd (upd st.b s (st.b s).kill) d ⟨(st.b d).ver + 1, .own,row,e⟩) m' (.os d ((st.b d).ver + 1) 0 row.len true) V→K (a.put o.dst V) w') →
        K (a.put o.dst (.slice (some ⟨w.heap.size,0,none⟩) row.len ncap)) (w1.alloc (.cells (olds.toArray ++ (Vs.flatMap fun v=>v.cells.toList).toArray ++ Builtin.zeroCells ez.cells (ncap - row.len)) e)):=by
      intro w1 olds ncap hbel hw1 hw1h hol hnc hncm hoe K hK
      have hg:=h.grow hbel
      have hheap:(w1.alloc (.cells (olds.toArray ++ (Vs.flatMap fun v=>v.cells.toList).toArray ++ Builtin.zeroCells ez.cells (ncap - row.len)) e)).heap[w.heap.size]?=some (.cells (olds.toArray ++ (Vs.flatMap fun v=>v.cells.toList).toArray ++ Builtin.zeroCells ez.cells (ncap - row.len)) e (0,0)):=by
        rw [← hw1];exact heap_alloc_new w1 _
      have hcur : ∀ q,q < row.len * ie.size→(olds.toArray ++ (Vs.flatMap fun v=>v.cells.toList).toArray ++ Builtin.zeroCells ez.cells (ncap - row.len))[q]?=if q < len * ie.size then olds[q]? else (Vs.flatMap fun v=>v.cells.toList)[q - len * ie.size]?:=by
        intro q hq
        have hl2:(Vs.flatMap fun v=>v.cells.toList).length=r2.len * ie.size:=by rw [hnl,E.size]
        have hrl:row.len * ie.size=len * ie.size + r2.len * ie.size:=by rw [a1,Nat.add_mul,hlen]
        rw [Array.getElem?_append_left (by simp only [Array.size_append,List.size_toArray];omega)]
        by_cases hc:q < len * ie.size
        · rw [if_pos hc,Array.getElem?_append_left (by simp only [List.size_toArray];omega)]
          simp
        · rw [if_neg hc,Array.getElem?_append_right (by simp only [List.size_toArray];omega)]
          simp [hol]
      have hmv:=hg.move (s:=s) (d:=d) (row:=row) (e:=e) (r:=⟨w.heap.size,0,ncap,ie.size⟩) (.inr ⟨_,hheap,?_,?_⟩) (fun _ s' _ ha=>Nat.ne_of_lt (h.wr.own_lt ha))
      · exact hK _ _ I _ hmv (VR.newOsV (r:=⟨w.heap.size,0,ncap,ie.size⟩) hnc (.inr (by simp)) rfl rfl)
      · refine rowR_app (Vs:=Vs) hra (fun j hj=>?_) hVl fun j hj=>?_
        · obtain ⟨V,j1,j2,j3,j4⟩:=hoe j (by omega)
          refine ⟨V,h.wr.keep hbel j1,j2,j3,fun jj hjj=>?_⟩
          have hjj:jj < ie.size:=hjj
          have hb1:(j + 1) * ie.size≤len * ie.size:=Nat.mul_le_mul_right _ (by omega)
          have hb2:len * ie.size≤row.len * ie.size:=Nat.mul_le_mul_right _ (by omega)
          rw [Nat.add_mul] at hb1
          rw [hcur (j * ie.size + jj) (by omega),if_pos (by omega),j4 jj hjj]
        · refine ⟨h.wr.keep hbel (hVe j hj).1,(hel j hj).1,(hVe j hj).2,fun jj hjj=>?_⟩
          have hjj:jj < ie.size:=hjj
          have hb1:((st.b s).row.len + j + 1) * ie.size≤row.len * ie.size:=Nat.mul_le_mul_right _ (by omega)
          rw [Nat.add_mul ((st.b s).row.len + j)] at hb1
          have hb2:len * ie.size≤((st.b s).row.len + j) * ie.size:=Nat.mul_le_mul_right _ (by omega)
          rw [hcur (((st.b s).row.len + j) * ie.size + jj) (by omega),if_neg (by omega)]
          rw [show ((st.b s).row.len + j) * ie.size + jj - len * ie.size=j * ie.size + jj by rw [hlen,Nat.add_mul];omega]
          exact flat_get Vs hall j jj (by omega) hjj
      · have hl2:(Vs.flatMap fun v=>v.cells.toList).length=r2.len * ie.size:=by rw [hnl,E.size]
        refine ⟨⟨fun hn _ i hi k n=>?_,hcell.symm⟩,?_,hnc,hncm,fun hi=>Nat.lt_irrefl _ (h.wr.imm _ hi).1,h.wr.size⟩
        · have hi':row.len * ie.size≤i:=by
            rcases hi with hi|hi
            · have hi:i < 0 * ie.size:=hi
              rw [Nat.zero_mul] at hi
              omega
            · have hi:(0 + row.len) * ie.size≤i:=hi
              rw [Nat.zero_add] at hi
              exact hi
          have hrl:row.len * ie.size=len * ie.size + r2.len * ie.size:=by rw [a1,Nat.add_mul,hlen]
          rw [Array.getElem?_append_right (by simp only [Array.size_append,List.size_toArray];omega)]
          generalize i - _=j
          by_cases hj:j < (ncap - row.len) * ez.cells.size
          · have hz:0 < ez.cells.size:=by
              rcases Nat.eq_zero_or_pos ez.cells.size with h0|h0
              · rw [h0] at hj;omega
              · exact h0
            have hm':=Nat.mod_lt j hz
            have:=zero_not_int ‹TI P e ie› E hn (j % ez.cells.size) hm' k n
            simp only [Builtin.zeroCells,Array.getElem?_map,Array.getElem?_range,hj,if_true,Option.map_some]
            intro e
            apply this
            rw [← e]
            simp [hm']
          · rw [Array.getElem?_eq_none (by rw [size_zeroCells];omega)];simp
        rw [Nat.zero_add]
        simp only [Array.size_append,List.size_toArray,size_zeroCells,E.zsz,hol,hl2,← Nat.add_mul]
        congr 1
        omega
    have hdrew : ∀ ob,Below w.heap.size w (w.drew.alloc ob):=fun ob=>((Below.refl w.heap.size w).drew).alloc (Nat.le_refl _) _
    have hgc : ∀ old,row.len≤grownCap w row.len old e:=fun old=>grownCap_ge w row.len old e
    have hgm : ∀ old,grownCap w row.len old e≤maxLen:=fun old=>grownCap_le_maxLen w row.len old e hmax
    by_cases hc0:cap=0
    · have hl0:len=0:=by omega
      have hrl:row.len=r2.len:=by omega
      intro K Q hK
      unfold Oper.wp
      cases ad with
      | none =>
        have hrun:=run_append_nil (P:=P) w t o.type e ein ez hut E.info E.zero x2 r2.len cap2 (Vs.flatMap fun v=>v.cells.toList) hnl hnews (by omega) (by omega) (by rw [E.bytes,← hrl];omega)
        rw [← hrl] at hrun
        have hr2:=hexec (V:=.slice (some ⟨w.heap.size,0,none⟩) row.len (grownCap w row.len 0 e)) (w':=w.drew.alloc (.cells ((Vs.flatMap fun v=>v.cells.toList).toArray ++ Builtin.zeroCells ez.cells (grownCap w row.len 0 e - row.len)) e)) (by
          rw [hl0,hc0,← hrl];exact hrun)
        rw [hr2]
        have:=grown w.drew [] (grownCap w row.len 0 e) (hdrew _) rfl rfl (by simp [hl0]) (hgc 0) (hgm 0) (fun j hj=>by omega) K hK
        show K (a.put o.dst _) _
        simpa using this
      | some b =>
        have hrun:=run_append_grow (P:=P) w t o.type e ein ez hut E.info E.zero b 0 0 [] (by simp) (fun j v hj=>by simp at hj) x2 r2.len cap2 (Vs.flatMap fun v=>v.cells.toList) hnl hnews (by omega) (by simp;omega) (growslice_fits (by omega) (by rw [E.bytes,Nat.zero_add,← hrl];exact hbytes))
        simp only [Nat.zero_add] at hrun
        rw [← hrl] at hrun
        have hr2:=hexec (V:=.slice (some ⟨w.heap.size,0,none⟩) row.len (grownCap w row.len 0 e)) (w':=w.drew.alloc (.cells (([]:List Value).toArray ++ (Vs.flatMap fun v=>v.cells.toList).toArray ++ Builtin.zeroCells ez.cells (grownCap w row.len 0 e - row.len)) e)) (by
          rw [hl0,hc0,← hrl];exact hrun)
        rw [hr2]
        exact grown w.drew [] (grownCap w row.len 0 e) (hdrew _) rfl rfl (by simp [hl0]) (hgc 0) (hgm 0) (fun j hj=>by omega) K hK
    · obtain ⟨cur,g1,g2,g3,g4,g5,g6,g7,g8,g9⟩:=hold (by omega)
      have had:=k3.resolve_left hc0
      rw [g3] at had
      simp only [Nat.zero_add,Nat.zero_mul] at had
      subst had
      have hact:act st.b m s:=⟨.inl hm,by omega⟩
      by_cases hroom:len + r2.len≤cap
      · have hfit:len * ein.size + (Vs.flatMap fun v=>v.cells.toList).length≤cur.size:=by
          rw [hnl,g5,E.size,← Nat.add_mul]
          exact Nat.mul_le_mul_right _ hroom
        have hrun:=run_append_room (P:=P) w t o.type e ein hut E.info (m s).g len cap cur g1 x2 r2.len cap2 (Vs.flatMap fun v=>v.cells.toList) hnl hnews hone hroom hfit
        have hrl:len + r2.len=row.len:=by omega
        rw [hrl,E.size] at hrun
        generalize hcn:(cur.toList.take (len * ie.size) ++ (Vs.flatMap fun v=>v.cells.toList) ++ cur.toList.drop (len * ie.size + (Vs.flatMap fun v=>v.cells.toList).length)).toArray=cur' at hrun
        have hl2:(Vs.flatMap fun v=>v.cells.toList).length=r2.len * ie.size:=by rw [hnl,E.size]
        have hcur : ∀ q,cur'[q]?=if len * ie.size≤q∧q < len * ie.size + r2.len * ie.size then (Vs.flatMap fun v=>v.cells.toList)[q - len * ie.size]? else cur[q]?:=by
          intro q
          rw [← hcn,List.getElem?_toArray,mid_get _ _ _ _ (by rw [E.size] at hfit;simpa using hfit),hl2]
          simp only [Array.getElem?_toList]
        have hcs:cur'.size=cur.size:=by
          rw [← hcn]
          rw [E.size] at hfit
          simp only [List.size_toArray,List.length_append,List.length_take,List.length_drop,Array.length_toList]
          omega
        obtain ⟨hk,hkv⟩:=h.wr.kill s
        have hsc:=hk.scribble (w':=w.setRow (m s).g cur') (g:=(m s).g) g7 (fun s1 ha hgg=>by
          unfold act at ha
          by_cases e1:s1=s
          · subst e1;rw [upd_same] at ha;rcases ha.1 with h|h <;> cases h
          · rw [upd_ne _ _ e1] at ha
            exact e1 (h.wr.inj s1 s ha hact hgg)) g8 rfl rfl rfl (by simp [World.setRow]) (fun k hk hne=>setRow_other w _ k cur' hne)
        obtain ⟨hsw,hsv⟩:=hsc
        have tr : ∀ v V,VR I w st.b m v V→VR I (w.setRow (m s).g cur') (upd st.b s (st.b s).kill) m v V:=fun v V hv=>hsv _ _ (hkv _ _ hv)
        have hkx:SRx c I m ⟨st.t,upd st.b s (st.b s).kill⟩ a (w.setRow (m s).g cur'):=⟨hsw,h.def0,h.sz,fun y=>tr _ _ (h.tmp y)⟩
        have ed:(upd st.b s (st.b s).kill d).ver=(st.b d).ver:=by
          by_cases e:d=s
          · subst e;rw [upd_same];rfl
          · rw [upd_ne _ _ e]
        have hmv:=hkx.slot (d:=d) (b:=⟨(st.b d).ver + 1, .own,row,e⟩) (r:=m s) (by show (upd st.b s (st.b s).kill d).ver < _;rw [ed];exact Nat.lt_succ_self _) (fun _=>.inr ⟨cur',setRow_heap w _ cur cur' _ _ g1,?_,?_⟩) (fun _ s1 hs1 ha hgg=>by
          unfold act at ha
          by_cases e1:s1=s
          · subst e1
            rw [show (⟨st.t,upd st.b s1 (st.b s1).kill⟩:St).b s1=(st.b s1).kill from upd_same _ _ _] at ha
            rcases ha.1 with h|h <;> cases h
          · rw [show (⟨st.t,upd st.b s (st.b s).kill⟩:St).b s1=st.b s1 from upd_ne _ _ e1] at ha
            exact e1 (h.wr.inj s1 s ha hact hgg))
        · intro K Q hK
          unfold Oper.wp
          rw [hexec hrun]
          exact hK _ _ I _ hmv (VR.newOsV (r:=m s) (by omega) (.inr (by rw [g3];simp)) hcap g3)
        · rw [g3,g4]
          refine rowR_app (Vs:=Vs) hra (fun j hj=>?_) hVl fun j hj=>?_
          · obtain ⟨V,j1,j2,j3,j4⟩:=g2 j hj
            refine ⟨V,tr _ _ j1,j2,j3,fun jj hjj=>?_⟩
            have hb1:(j + 1) * ie.size≤len * ie.size:=Nat.mul_le_mul_right _ (by omega)
            rw [Nat.add_mul] at hb1
            rw [hcur,if_neg (by omega)]
            have:=j4 jj hjj
            rwa [Nat.zero_add] at this
          · refine ⟨tr _ _ (hVe j hj).1,(hel j hj).1,(hVe j hj).2,fun jj hjj=>?_⟩
            have hb1:(j + 1) * ie.size≤r2.len * ie.size:=Nat.mul_le_mul_right _ (by omega)
            rw [Nat.add_mul] at hb1
            rw [hcur,show ((st.b s).row.len + j) * ie.size + jj=len * ie.size + (j * ie.size + jj) by rw [hlen,Nat.add_mul];omega,if_pos (by omega)]
            rw [show len * ie.size + (j * ie.size + jj) - len * ie.size=j * ie.size + jj by omega]
            exact flat_get Vs hall j jj (by omega) hjj
        · refine ⟨⟨fun hn ⟨es,he⟩ i hi k n=>?_,by rw [g4,hcell]⟩,by rw [hcs,g5,g3,Nat.zero_add,← hcap,g4],by simp only;omega,by rw [← hcap];exact g6,g7,g8⟩
          have hl:len * ie.size + r2.len * ie.size=row.len * ie.size:=by rw [← Nat.add_mul,hrl]
          have hi1:row.len * ie.size≤i:=by
            rcases hi with hi|hi
            · rw [g3] at hi;omega
            · have hi:((m s).base + row.len) * (m s).sz≤i:=hi
              rw [g3,g4,Nat.zero_add] at hi;exact hi
          rw [hcur i,if_neg (by omega)]
          exact g9 (by rw [hse];exact hn) (hra.kind he) i (.inr (by
            rw [g3,g4,Nat.zero_add]
            have:(st.b s).row.len * ie.size≤row.len * ie.size:=Nat.mul_le_mul_right _ (by omega)
            omega)) k n
      ·
        have hof:(cur.toList.take (len * ie.size)).length=len * ein.size:=by
          rw [E.size,List.length_take,Array.length_toList,g5]
          have:len * ie.size≤cap * ie.size:=Nat.mul_le_mul_right _ k2
          omega
        have hrl:len + r2.len=row.len:=by omega
        have holds : ∀ j v,(cur.toList.take (len * ie.size))[j]?=some v→w.cell? ((⟨(m s).g,0,none⟩:Addr).add j)=some v:=by
          intro j v hj
          rw [addr_add _ _ rfl]
          simp only [Nat.zero_add]
          rw [cell_of_heap g1,← Array.getElem?_toList]
          rw [List.getElem?_take] at hj
          split at hj
          · exact hj
          · cases hj
        have hrun:=run_append_grow (P:=P) w t o.type e ein ez hut E.info E.zero ⟨(m s).g,0,none⟩ len cap (cur.toList.take (len * ie.size)) hof holds x2 r2.len cap2 (Vs.flatMap fun v=>v.cells.toList) hnl hnews (by omega) (by rw [hrl];exact Int.ofNat_le.2 hmx) (growslice_fits (by omega) (by rw [E.bytes,hrl];exact hbytes))
        rw [hrl] at hrun
        intro K Q hK
        unfold Oper.wp
        rw [hexec hrun]
        refine grown w.drew (cur.toList.take (len * ie.size)) (grownCap w row.len cap e) (hdrew _) rfl rfl (by rw [hof,E.size]) (hgc cap) (hgm cap) (fun j hj=>?_) K hK
        obtain ⟨V,j1,j2,j3,j4⟩:=g2 j (by omega)
        refine ⟨V,j1,j2,j3,fun jj hjj=>?_⟩
        have hb1:(j + 1) * ie.size≤len * ie.size:=Nat.mul_le_mul_right _ (by omega)
        rw [Nat.add_mul] at hb1
        rw [List.getElem?_take,if_pos (by omega),Array.getElem?_toList]
        have:=j4 jj hjj
        rwa [Nat.zero_add] at this
end
end Go.AVL
end

section
namespace Go.AVL
open Go.RowKit
set_option linter.unusedVariables false
set_option linter.unusedSimpArgs false
section
variable {P : Program} {c : Ctx P} {I : Nat → Prop} {m : Nat → Reg} {w w' : World} {st : St} {a : Act} {B : Nat → Blk}
theorem RowWin.spec {r rin:Row} {off len:Nat} (h:RowWin r off len rin) (hl:off + len≤r.len):rin.len=len∧∃ k,(∀ i,i < len→∃ n,rin.get i = .int k n∧r.get (off + i) = .int k n)∧∃ l,r = .ints k l:=by
  cases h with
  | @ints k l _ _ =>
    have hl':off + len≤l.length:=hl
    refine ⟨by simp [Row.len];omega,k,fun i hi=>⟨l.getD (off + i) 0,?_,rfl⟩,l,rfl⟩
    show AV.int k _=AV.int k _
    rw [getD_take_drop hi]
  | @intsF k l =>
    refine ⟨rfl,k,fun i hi=>⟨l.getD i 0,rfl,?_⟩,l,rfl⟩
    rw [Nat.zero_add]
    rfl
theorem RowWin.ne_vals {r rin:Row} {off len:Nat} {es:List AV} (h:RowWin r off len rin):rin≠.vals es:=by
  cases h <;> (intro e;cases e)
theorem BR.cut {s off len:Nat} {row:Row} {b:Blk} (hb:BR c I w B m s) (hm:(B s).mode = .own) (hw:RowWin (B s).row off len row) (hl:off + len≤(B s).row.len) (hbm:b.mode = .own) (hbr:b.row=row) (hbe:b.e=(B s).e) :
    ((⟨(m s).g,(m s).base + off,(m s).cap - off,(m s).sz⟩:Reg).cap=0∧b.row.len=0)∨∃ cur,w.heap[(m s).g]?=some (.cells cur b.e (0,0))∧RowR I w B m b.row cur ((m s).base + off) (m s).sz ∧
      BM c I b ⟨(m s).g,(m s).base + off,(m s).cap - off,(m s).sz⟩ cur:=by
  obtain ⟨q1,k,q2,l,q3⟩:=hw.spec hl
  rcases hb (by rw [hm];simp) with h0|⟨cur,h1,h2,h3⟩
  · have:=h0.1;have:=h0.2
    exact .inl ⟨by show (m s).cap - off=0;omega,by rw [hbr];omega⟩
  · refine .inr ⟨cur,by rw [hbe];exact h1,?_,?_⟩
    · intro i hi
      rw [hbr,q1] at hi
      obtain ⟨V,v1,v2,v3,v4⟩:=h2 (off + i) (by omega)
      obtain ⟨n,e1,e2⟩:=q2 i hi
      refine ⟨V,by rw [hbr,e1,← e2];exact v1,v2,v3,fun j hj=>?_⟩
      rw [← v4 j hj,Nat.add_assoc]
    · unfold BM at h3 ⊢
      rw [hm] at h3
      rw [hbm]
      obtain ⟨⟨_,h4⟩,h5,h6,h7,h8,h9⟩:=h3
      refine ⟨⟨fun _ ⟨es,he⟩=>absurd (hbr.symm.trans he) hw.ne_vals,by rw [hbe];exact h4⟩,?_,?_,?_,h8,h9⟩
      · show cur.size=((m s).base + off + ((m s).cap - off)) * (m s).sz
        rw [h5];congr 1;omega
      · show b.row.len≤(m s).cap - off
        rw [hbr,q1];omega
      · show (m s).cap - off≤maxLen
        omega
theorem ef_cut (h:SRx c I m st a w) {o:Oper} {d:Nat} {x:Operand} {s u off len:Nat} {full:Bool} {row:Row} (ho:o.op = .assign x) (hx:Ev st x (.os s u off len full)) (hu:(st.b s).ver=u) (hm:(st.b s).mode = .own) (hw:RowWin (st.b s).row off len row) :
    Gives P c ⟨st.t,upd (upd st.b s (st.b s).kill) d ⟨(st.b d).ver + 1, .own,row,(st.b s).e⟩⟩ (.os d ((st.b d).ver + 1) 0 len false) o a w:=by
  obtain ⟨ad,cap,e,k0,k⟩:=(hx.vr h).os_inv
  obtain ⟨k1,k2,k3,k4⟩:=k hu (by rw [hm];simp)
  obtain ⟨q1,_⟩:=hw.spec k1
  have hs2:SRx c I (upd m d ⟨(m s).g,(m s).base + off,(m s).cap - off,(m s).sz⟩) ⟨st.t,upd (upd st.b s (st.b s).kill) d ⟨(st.b d).ver + 1, .own,row,(st.b s).e⟩⟩ a w:=by
    by_cases hsd:s=d
    · subst hsd
      have e1:upd (upd st.b s (st.b s).kill) s ⟨(st.b s).ver + 1, .own,row,(st.b s).e⟩=upd st.b s ⟨(st.b s).ver + 1, .own,row,(st.b s).e⟩:=by
        funext y
        by_cases hy:y=s
        · subst hy;rw [upd_same,upd_same]
        · rw [upd_ne _ _ hy,upd_ne _ _ hy,upd_ne _ _ hy]
      rw [e1]
      refine h.slot (d:=s) (b:=⟨(st.b s).ver + 1, .own,row,(st.b s).e⟩) (r:=⟨(m s).g,(m s).base + off,(m s).cap - off,(m s).sz⟩) (Nat.lt_succ_self _) (fun _=>BR.cut (h.wr.blk s) hm hw k1 rfl rfl rfl) (fun hc s1 hs1 ha hgg=>?_)
      have hc':(m s).cap - off≠0:=hc
      exact hs1 (h.wr.inj s1 s ha ⟨.inl hm,by omega⟩ hgg)
    · obtain ⟨hk,hkv⟩:=h.wr.kill s
      have ed:upd st.b s (st.b s).kill d=st.b d:=upd_ne _ _ (Ne.symm hsd)
      have hkx:SRx c I m ⟨st.t,upd st.b s (st.b s).kill⟩ a w:=⟨hk,h.def0,h.sz,fun y=>hkv _ _ (h.tmp y)⟩
      refine hkx.slot (d:=d) (b:=⟨(st.b d).ver + 1, .own,row,(st.b s).e⟩) (r:=⟨(m s).g,(m s).base + off,(m s).cap - off,(m s).sz⟩) (by show (upd st.b s (st.b s).kill d).ver < _;rw [ed];exact Nat.lt_succ_self _) (fun _=>?_) (fun hc s1 hs1 ha hgg=>?_)
      · rcases BR.cut (b:=⟨(st.b d).ver + 1, .own,row,(st.b s).e⟩) (h.wr.blk s) hm hw k1 rfl rfl rfl with h0|⟨cur,h1,h2,h3⟩
        · exact .inl h0
        · exact .inr ⟨cur,h1,h2.mono hkv,h3⟩
      · have hc':(m s).cap - off≠0:=hc
        unfold act at ha
        by_cases e1:s1=s
        · subst e1
          rw [show (⟨st.t,upd st.b s1 (st.b s1).kill⟩:St).b s1=(st.b s1).kill from upd_same _ _ _] at ha
          rcases ha.1 with h|h <;> cases h
        · rw [show (⟨st.t,upd st.b s (st.b s).kill⟩:St).b s1=st.b s1 from upd_ne _ _ e1] at ha
          exact e1 (h.wr.inj s1 s ha ⟨.inl hm,by omega⟩ hgg)
  intro K Q hK
  unfold Oper.wp
  have hex:(execOp a.eval o).run P w = .ok (.value (.slice ad len cap)) w:=by simp [execOp,ho,e]
  rw [hex]
  refine hK _ w I _ hs2 ?_
  refine .os d _ 0 len false ad cap ?_ ?_
  · show _≤(upd (upd st.b s (st.b s).kill) d _ d).ver
    rw [upd_same];exact Nat.le_refl _
  · show (upd (upd st.b s (st.b s).kill) d _ d).ver=_→(upd (upd st.b s (st.b s).kill) d _ d).mode≠_→_≤(upd (upd st.b s (st.b s).kill) d _ d).row.len∧_
    rw [upd_same,upd_same]
    intro _ _
    refine ⟨?_,k2,k3,fun hf=>absurd hf Bool.false_ne_true⟩
    show 0 + len≤row.len
    omega
theorem RowSpl.spec {k:IntKind} {l:List Int} {rout r':Row} {off len:Nat} (h:RowSpl (.ints k l) off len rout r') (hl:off + len≤l.length) :
    r'.len=l.length∧rout.len=len∧(∀ i,i < l.length→∃ n,r'.get i = .int k n∧((off≤i∧i < off + len→rout.get (i - off) = .int k n)∧(¬ (off≤i∧i < off + len)→(Row.ints k l).get i = .int k n))):=by
  cases h with
  | @ints _ _ _ _ l' hl' =>
    subst hl'
    refine ⟨by simp [Row.len];omega,rfl,fun i hi=>⟨_,rfl,fun hc=>?_,fun hc=>?_⟩⟩
    · show AV.int k _=AV.int k _
      simp only [List.getD_eq_getElem?_getD]
      rw [mid_get l l' off i (by omega),if_pos hc]
    · show AV.int k _=AV.int k _
      simp only [List.getD_eq_getElem?_getD]
      rw [mid_get l l' off i (by omega),if_neg hc]
  | @intsF _ _ l' hl' =>
    refine ⟨hl',hl',fun i hi=>⟨l'.getD i 0,rfl,fun _=>rfl,fun hc=>absurd ⟨Nat.zero_le _,by omega⟩ hc⟩⟩
theorem RowSpl.zero {k:IntKind} {l:List Int} {rout r':Row} {off len:Nat} (h:RowSpl (.ints k l) off len rout r') (h0:len=0):r' = .ints k l:=by
  cases h with
  | @ints _ _ _ _ l' hl' =>
    have:l' = []:=List.eq_nil_of_length_eq_zero (by omega)
    subst this
    subst h0
    simp
  | @intsF _ _ l' hl'=>rw [List.eq_nil_of_length_eq_zero h0,List.eq_nil_of_length_eq_zero (by omega:l'.length=0)]
theorem ef_callI (h:SRx c I m st a w) {o:Oper} {x:Operand} {args:Array Operand} {ats:Array TypeId} {f:FuncId} {caps vs as res:List AV} {ss:List Nat} {p s u off len:Nat} {full:Bool} {rin rout row':Row} {e:TypeId}
    (ho:o.op = .call ⟨.value x,args,ats⟩) (hx:Ev st x (.fn f caps)) (hv:EvL st args.toList vs) (hp:p < (vs ++ caps).length) (hpv:(vs ++ caps).getD p .bad = .os s u off len full) (hlen:vs.length + caps.length=as.length)
    (hsn : ∀ i,i < as.length→i≠p→Snap st ss ((vs ++ caps).getD i .bad) (as.getD i .bad)) (hap:as.getD p .bad = .os p 1 0 len false) (hss:s ∉ ss) (hu:(st.b s).ver=u) (hm:(st.b s).mode = .own∨(st.b s).mode = .win) (he:(st.b s).e=e)
    (hrw:RowWin (st.b s).row off len rin) (hrs:RowSpl (st.b s).row off len rout row') (hcs:CS P f as ⟨some (p,rin,rout,e),none⟩ res) (hfl:Flat (AV.mk res)) :
    Gives P c ⟨st.t,upd st.b s ((st.b s).setRow row')⟩ (AV.mk res) o a w:=by
  obtain ⟨cv,e1,e2,e3⟩:=(hx.vr h).fn_inv
  obtain ⟨l1,l2⟩:=hv.vr h
  have hargs:args.size=vs.length:=by rw [← Array.length_toList,l1]
  have hV : ∀ i,i < as.length→VR I w st.b m ((vs ++ caps).getD i .bad) ((args.map a.eval ++ cv).getD i undef):=by
    intro i hi
    by_cases hc:i < vs.length
    · have:=l2 i hc
      rw [show (vs ++ caps).getD i .bad=vs.getD i .bad by simp only [List.getD_eq_getElem?_getD];rw [List.getElem?_append_left hc],
        show (args.map a.eval ++ cv).getD i undef=(args.toList.map a.eval).getD i undef by
          rw [Array.getD_eq_getD_getElem?,List.getD_eq_getElem?_getD,Array.getElem?_append_left (by simp;omega),← Array.getElem?_toList,Array.toList_map]]
      exact this
    · have:=e3 (i - vs.length) (by omega)
      rw [show (vs ++ caps).getD i .bad=caps.getD (i - vs.length) .bad by simp only [List.getD_eq_getElem?_getD];rw [List.getElem?_append_right (by omega)],
        show (args.map a.eval ++ cv).getD i undef=cv.getD (i - vs.length) undef by
          rw [Array.getD_eq_getD_getElem?,Array.getD_eq_getD_getElem?,Array.getElem?_append_right (by simp;omega)];simp [hargs]]
      exact this
  have hpas:p < as.length:=by rw [← hlen,← List.length_append];exact hp
  have hVp:=hV p hpas
  rw [hpv] at hVp
  obtain ⟨ad,cap,eV,k0,k⟩:=hVp.os_inv
  obtain ⟨k1,k2,k3,k4⟩:=k hu (alive_of hm)
  obtain ⟨w1,kk,w2,l,hrowl⟩:=hrw.spec k1
  have hll:(st.b s).row.len=l.length:=by rw [hrowl];rfl
  rw [hrowl] at hrs
  obtain ⟨s1,s2,s3⟩:=hrs.spec (by omega)
  have hA : ∀ k,(I k∨slotI st m ss k)→k < w.heap.size:=fun k hk=>hk.elim (fun hk=>(h.wr.imm k hk).1) (slot_lt h.wr)
  have hsz0:(args.map a.eval ++ cv).size=as.length:=by simp [hargs,← e2,hlen]
  intro K Q hK
  have hbin:(Io.bIn ⟨some (p,rin,rout,e),none⟩)=upd noB p ⟨1, .win,rin,e⟩:=rfl
  have hbout:(Io.bOut ⟨some (p,rin,rout,e),none⟩)=upd noB p ⟨1, .win,rout,e⟩:=rfl
  by_cases hl0:len=0
  ·
    have hrow':row'=(st.b s).row:=by rw [hrowl];exact hrs.zero hl0
    subst hl0
    have hwr:WR (⟨0,w,fun k=>I k∨slotI st m ss k,none⟩:Ctx P) (fun k=>I k∨slotI st m ss k) (upd m p ⟨(m s).g,(m s).base + off,0,(m s).sz⟩) (Io.bIn ⟨some (p,rin,rout,e),none⟩) w:=by
      rw [hbin]
      exact (WR.fresh _ w m hA).slot (d:=p) (b:=⟨1, .win,rin,e⟩) (r:=⟨(m s).g,(m s).base + off,0,(m s).sz⟩) Nat.zero_lt_one (fun _=>.inl ⟨rfl,w1⟩) (fun hc=>absurd rfl hc)
    have hset:(⟨st.t,upd st.b s ((st.b s).setRow row')⟩:St)=st:=by
      rw [hrow']
      have:upd st.b s ((st.b s).setRow (st.b s).row)=st.b:=funext fun y=>by
        by_cases e:y=s
        · subst e;rw [upd_same];rfl
        · rw [upd_ne _ _ e]
      rw [this]
    rw [hset] at hK
    refine wp_call (exec_call ho e1) ((hcs (fun k=>I k∨slotI st m ss k) none w (upd m p ⟨(m s).g,(m s).base + off,0,(m s).sz⟩) _ (fun _=>rfl) hwr hsz0 fun i hi=>?_).mono ?_)
    · by_cases hip:i=p
      · subst hip
        rw [hap,eV,hbin]
        refine .os i 1 0 0 false ad cap (by rw [upd_same];exact Nat.le_refl _) ?_
        rw [upd_same,upd_same]
        intro _ _
        refine ⟨Nat.zero_le _,Nat.zero_le _,k3.imp id (fun h=>by rw [h];simp),fun hf=>by cases hf⟩
      · exact (hsn i hi hip).vr h.wr (hV i hi)
    · rintro v w' ⟨I',m',hw,_,hvr⟩
      exact hK v w' I m (h.grow hw.below) (hfl.vr hvr)
  · have hjj:0 < (st.b s).row.len:=by omega
    obtain ⟨hact,cur,hg,hrow,hbm⟩:=h.wr.act_of hm hjj
    have hfit:=hbm.size hm
    have hsz:(m s).sz=1:=by
      obtain ⟨V,j1,j2,_⟩:=hrow 0 hjj
      rw [hrowl] at j1
      have:=j1.int_inv
      rw [← j2,this];rfl
    have hnI:=h.wr.notI hact
    have hnA : ¬ (I (m s).g∨slotI st m ss (m s).g):=by
      rintro (hi|⟨s',hs',hd,hz,hgg⟩)
      · exact hnI hi
      · rcases h.wr.blk s' hd with h0|⟨cur',_,_,h4⟩
        · exact hz h0
        · cases hmo:(st.b s').mode with
          | dead=>exact hd hmo
          | own =>
            unfold BM at h4;rw [hmo] at h4
            have:=h.wr.inj s' s ⟨.inl hmo,fun hc=>hz ⟨hc,by have:=h4.2.2.1;omega⟩⟩ hact hgg
            exact hss (this ▸ hs')
          | win =>
            unfold BM at h4;rw [hmo] at h4
            have:=h.wr.inj s' s ⟨.inr hmo,fun hc=>hz ⟨hc,by have:=h4.2.1;omega⟩⟩ hact hgg
            exact hss (this ▸ hs')
          | froz =>
            unfold BM at h4;rw [hmo] at h4
            exact hnI (hgg ▸ h4)
    have had:=k3.resolve_left (by omega)
    have hr1:((⟨(m s).g,(m s).base + off,len,(m s).sz⟩:Reg).base + rin.len) * (m s).sz≤cur.size:=by
      refine Nat.le_trans (Nat.mul_le_mul_right _ ?_) hfit
      show (m s).base + off + rin.len≤_
      omega
    have hwr:WR (⟨0,w,fun k=>I k∨slotI st m ss k,some ((m s).g,((m s).base + off) * (m s).sz,((m s).base + off + len) * (m s).sz)⟩:Ctx P) (fun k=>I k∨slotI st m ss k) (upd m p ⟨(m s).g,(m s).base + off,len,(m s).sz⟩) (Io.bIn ⟨some (p,rin,rout,e),none⟩) w:=by
      rw [hbin]
      refine ⟨rfl,rfl,rfl,Nat.le_refl _,fun _ _ _=>rfl,fun g lo hi hw=>?_,fun k hk=>⟨hA k hk, .inl hk⟩,fun s' hd=>?_,fun x1 x2 h1 h2 _=>?_⟩
      · simp only [Option.some.injEq,Prod.mk.injEq] at hw
        obtain ⟨rfl,_,_⟩:=hw
        exact ⟨cur,cur,_,hg,hg,rfl,fun _ _=>rfl⟩
      · by_cases e':s'=p
        · subst e'
          rw [upd_same] at hd
          right
          rw [upd_same,upd_same]
          refine ⟨cur,he ▸ hg,fun i hi=>?_,?_⟩
          · have hi':i < len:=by rw [← w1];exact hi
            obtain ⟨n,n1,n2⟩:=w2 i hi'
            obtain ⟨V,j1,j2,j3,j4⟩:=hrow (off + i) (by omega)
            rw [n2] at j1
            rw [j1.int_inv] at j2 j3 j4
            refine ⟨.int kk n,by show VR _ _ _ _ (rin.get i) _;rw [n1];exact .int _ _,j2,j3,fun jj hjj=>?_⟩
            have:=j4 jj hjj
            rwa [← Nat.add_assoc] at this
          · exact ⟨hnA,w1.symm,by show _=some (_,_,((m s).base + off + rin.len) * (m s).sz);rw [w1],hr1⟩
        · rw [upd_ne _ _ e'] at hd
          exact absurd rfl hd
      · have hx : ∀ y,act (upd noB p ⟨1, .win,rin,e⟩) (upd m p ⟨(m s).g,(m s).base + off,len,(m s).sz⟩) y→y=p:=by
          intro y hy
          by_cases e':y=p
          · exact e'
          · unfold act at hy
            rw [upd_ne _ _ e'] at hy
            rcases hy.1 with h|h <;> cases h
        rw [hx _ h1,hx _ h2]
    refine wp_call (exec_call ho e1) ((hcs (fun k=>I k∨slotI st m ss k) _ w _ _ (fun h=>by cases h) hwr hsz0 fun i hi=>?_).mono ?_)
    · by_cases hip:i=p
      · subst hip
        rw [hap,eV,hbin]
        refine .os i 1 0 len false ad cap (by rw [upd_same];exact Nat.le_refl _) ?_
        rw [upd_same,upd_same]
        intro _ _
        refine ⟨by simp only;omega,k2, .inr ?_,fun hf=>by cases hf⟩
        rw [had]
        simp
      · exact (hsn i hi hip).vr h.wr (hV i hi)
    · rintro v w' ⟨I',m',hw,hmp,hvr⟩
      have hmp':m' p=⟨(m s).g,(m s).base + off,len,(m s).sz⟩:=by rw [hmp p rin rout e rfl (by omega),upd_same]
      obtain ⟨cur0,cur',e',f1,f2,f3,f4⟩:=hw.frameW _ _ _ rfl
      rw [show (⟨0,w,fun k=>I k∨slotI st m ss k,some ((m s).g,((m s).base + off) * (m s).sz,((m s).base + off + len) * (m s).sz)⟩:Ctx P).w0=w from rfl,hg] at f1
      obtain ⟨rfl,rfl⟩:cur=cur0∧(st.b s).e=e':=by simpa using f1
      have hbp:=hw.blk p (by rw [hbout,upd_same];simp)
      rw [hbout,upd_same,hmp'] at hbp
      rcases hbp with h0|⟨cur1,g1,g2,g3⟩
      · exact absurd h0.1 hl0
      simp only at g1 g2
      rw [f2] at g1
      obtain ⟨rfl,_⟩:cur'=cur1∧_:=by simpa using g1
      rw [hsz] at f4 g2 hfit
      simp only [Nat.mul_one] at f4 hfit
      obtain ⟨hw2,hvr2⟩:=h.wr.write (w':=w') (row':=row') hact hg f2 f3 (fun x hxx=>f4 x (by rw [hsz] at hxx;simp only [Nat.mul_one] at hxx;omega)) hw.os hw.tape hw.output hw.size (fun k hk hne=>hw.frame k hk (by
          simp only [Option.map_some,ne_eq,Option.some.injEq]
          exact fun e=>hne e.symm)) (fun ⟨es,e⟩=>by cases hrs <;> cases e) (by rw [s1,hll]) (fun i hi=>by
        rw [s1] at hi
        obtain ⟨n,n1,n2,n3⟩:=s3 i hi
        rw [hsz]
        refine ⟨.int kk n,by rw [n1];exact .int _ _,rfl,by simp [Value.cells,Value.oneCell'],fun jj hjj=>?_⟩
        obtain rfl:jj=0:=by omega
        simp only [Nat.mul_one,Nat.add_zero]
        by_cases hc:off≤i∧i < off + len
        · obtain ⟨V,j1,j2,j3,j4⟩:=g2 (i - off) (by show i - off < rout.len;omega)
          have j1':VR I' w' (Io.bOut ⟨some (p,rin,rout,e),none⟩) m' (rout.get (i - off)) V:=j1
          rw [n2 hc] at j1'
          have:=j4 0 Nat.zero_lt_one
          rw [j1'.int_inv] at this
          simp only [Nat.mul_one,Nat.add_zero] at this
          rw [show (m s).base + off + (i - off)=(m s).base + i by omega] at this
          exact this
        · obtain ⟨V,j1,j2,j3,j4⟩:=hrow i (by omega)
          rw [hrowl,n3 hc] at j1
          rw [hsz] at j4
          have:=j4 0 Nat.zero_lt_one
          rw [j1.int_inv] at this
          simp only [Nat.mul_one,Nat.add_zero] at this
          rw [f4 ((m s).base + i) (by omega)]
          exact this)
      exact hK v w' I m ⟨hw2,h.def0,h.sz,fun y=>hvr2 _ _ (h.tmp y)⟩ (hfl.vr hvr)
theorem Ef.sound (h:SRx c I m st a w) {o:Oper} {d:Nat} {v:AV} {b:Nat→Blk} (hp:Ef P st d o.op v b):Gives P c ⟨st.t,b⟩ v o a w:=by
  generalize ho:o.op=op at hp
  cases hp with
  | store hx hu hm hy hiv hl hpv hr=>exact ef_store h ‹_› ho hx hu hm hy hiv hl hpv hr
  | append hd hs hx hu hm hse hlen hy hsn hro hsz hra hmax hb=>exact ef_append h ‹_› ‹_› ho hd hs hx hu hm hse hlen hy hsn hro hsz hra hmax hb
  | callZ hx hv hsn hcs hcl hnw=>exact ef_callZ h ho hx hv hsn hcs hcl hnw
  | callI hx hv hp hpv hl hsn hap hss hu hm he hrw hrs hcs hfl=>exact ef_callI h ho hx hv hp hpv hl hsn hap hss hu hm he hrw hrs hcs hfl
  | take hx hsd hu hm hr he=>subst hr;subst he;exact ef_take h ho hx hsd hu hm
  | cut hx hu hm he hw=>subst he;exact ef_cut h ho hx hu hm hw
  | ext hh=>exact hh c o a w ho I m h
  | nilO hr=>exact ef_nilO h ho hr
end
end Go.AVL
end

section
namespace Go.AVL
open Go.RowKit
set_option linter.unusedVariables false
set_option linter.unusedSimpArgs false
def Ag (s s':St) (op:Op):Prop:=∀ x ∈ op.operands.toList,∀ v,Ev s x v→Ev s' x v
section
variable {P : Program} {s s' : St} {d : Nat}
theorem EvL.congr {xs:List Operand} {vs:List AV} (h:EvL s xs vs) (ha : ∀ x ∈ xs,∀ v,Ev s x v→Ev s' x v):EvL s' xs vs:=by
  induction h with
  | nil=>exact .nil
  | cons hx _ ih=>exact .cons (ha _ (by simp) _ hx) (ih fun x hx=>ha x (by simp [hx]))
theorem BuildR.congr {fs:List (Nat×TypeId×Nat)} {ps:List (Nat×Operand)} {cs r:List AV} (h:BuildR s fs ps cs r) (ha : ∀ x ∈ ps.map (·.2),∀ v,Ev s x v→Ev s' x v):BuildR s' fs ps cs r:=by
  induction h with
  | nil=>exact .nil
  | cons hx h1 h2 h3 h4 _ ih=>exact .cons (ha _ (by simp) _ hx) h1 h2 h3 h4 (ih fun x hx=>ha x (by simp at hx ⊢;exact .inr hx))
theorem PartsR.congr {i:Nat} {ps:List (Nat×Operand)} {vs:List AV} (h:PartsR s i ps vs) (ha : ∀ x ∈ ps.map (·.2),∀ v,Ev s x v→Ev s' x v):PartsR s' i ps vs:=by
  induction h with
  | nil=>exact .nil
  | cons hx h1 _ ih=>exact .cons (ha _ (by simp) _ hx) h1 (ih fun x hx=>ha x (by simp at hx ⊢;exact .inr hx))
theorem Bd.congr {lo:Option Operand} {dd n:Nat} (h:Bd s lo dd n) (ha : ∀ x ∈ lo.toList,∀ v,Ev s x v→Ev s' x v):Bd s' lo dd n:=by
  cases h with
  | no=>exact .no
  | yes hx h0=>exact .yes (ha _ (by simp) _ hx) h0
theorem Mx.congr {b len:Nat} {hi mx:Option Operand} (h:Mx s b len hi mx) (ha : ∀ x ∈ mx.toList,∀ v,Ev s x v→Ev s' x v):Mx s' b len hi mx:=by
  cases h with
  | no=>exact .no
  | yes hx h0 h1 h2=>exact .yes (ha _ (by simp) _ hx) h0 h1 h2
theorem Snap.congr {ss:List Nat} {v v':AV} (h:Snap s ss v v') (hb : ∀ x ∈ ss,s'.b x=s.b x):Snap s' ss v v':=by
  induction h with
  | cl h=>exact .cl h
  | osI h1 h2 h3 h4=>exact .osI h1 (by rw [hb _ h1];exact h2) (by rw [hb _ h1];exact h3) (by rw [hb _ h1];exact h4)
  | osIf h1 h2 h3 h4 h5=>exact .osIf h1 (by rw [hb _ h1];exact h2) (by rw [hb _ h1];exact h3) (by rw [hb _ h1];exact h4) h5
  | osV h1 h2 h3 h4 h5=>exact .osV h1 (by rw [hb _ h1];exact h2) (by rw [hb _ h1];exact h3) (by rw [hb _ h1];exact h4) h5
  | osVf h1 h2 h3 h4 h5 h6=>exact .osVf h1 (by rw [hb _ h1];exact h2) (by rw [hb _ h1];exact h3) (by rw [hb _ h1];exact h4) h5 h6
  | agg h1 _ ih=>exact .agg h1 ih
  | nilIV=>exact .nilIV
  | nilVI=>exact .nilVI
  | nilII=>exact .nilII
theorem Pu.congr {op:Op} {v:AV} {ob:Option Blk} {R:List Nat} (h:Pu P s d op v ob R) (ha:Ag s s' op) (hR : ∀ x ∈ R,s'.b x=s.b x) (hd:ob≠none→s'.b d=s.b d):Pu P s' d op v ob R:=by
  unfold Ag at ha
  cases h with
  | move hx=>exact .move (ha _ (by simp [Op.operands]) _ hx)
  | assign hx=>exact .assign (ha _ (by simp [Op.operands]) _ hx)
  | pickT hx hy=>exact .pickT (ha _ (by simp [Op.operands]) _ hx) (ha _ (by simp [Op.operands]) _ hy)
  | pickF hx hy=>exact .pickF (ha _ (by simp [Op.operands]) _ hx) (ha _ (by simp [Op.operands]) _ hy)
  | pickB hx hy hz=>exact .pickB (ha _ (by simp [Op.operands]) _ hx) (ha _ (by simp [Op.operands]) _ hy) (ha _ (by simp [Op.operands]) _ hz)
  | alloc=>rw [← hd (by simp)];exact .alloc
  | box hx hv hl=>rw [← hd (by simp)];exact .box (ha _ (by simp [Op.operands]) _ hx) hv hl
  | @load t i x s1 u j o v _ hx hu hm hp =>
    have e:=hR s1 (by simp)
    exact .load (ha _ (by simp [Op.operands]) _ hx) (by rw [e];exact hu) (by rw [e];exact hm) (by rw [e];exact hp)
  | loadR hx hp=>exact .loadR (ha _ (by simp [Op.operands]) _ hx) hp
  | fieldA h1 h2 h3 hx h4=>exact .fieldA h1 h2 h3 (ha _ (by simp [Op.operands]) _ hx) h4
  | fieldR h1 h2 h3 hx h4=>exact .fieldR h1 h2 h3 (ha _ (by simp [Op.operands]) _ hx) h4
  | indexI h1 h2 hx hy h3 h4=>exact .indexI h1 h2 (ha _ (by simp [Op.operands]) _ hx) (ha _ (by simp [Op.operands]) _ hy) h3 h4
  | indexV h1 h2 hx hy h3 h4=>exact .indexV h1 h2 (ha _ (by simp [Op.operands]) _ hx) (ha _ (by simp [Op.operands]) _ hy) h3 h4
  | @indexO t i e ie x y s1 u off len full k' n j _ _ h1 hx hu hm hy h3 h4 h5 h6 =>
    have e:=hR s1 (by simp)
    exact .indexO h1 (ha _ (by simp [Op.operands]) _ hx) (by rw [e];exact hu) (by rw [e];exact hm) (ha _ (by simp [Op.operands]) _ hy) h3 h4 h5 (by rw [e];exact h6)
  | sliceI h1 h2 hx hlo hhi hmx h3 h4 h5 =>
    exact .sliceI h1 h2 (ha _ (by simp [Op.operands]) _ hx) (hlo.congr fun x hx=>ha x (by simp [Op.operands] at hx ⊢;simp [hx])) (hhi.congr fun x hx=>ha x (by simp [Op.operands] at hx ⊢;simp [hx])) (hmx.congr fun x hx=>ha x (by simp [Op.operands] at hx ⊢;simp [hx])) h3 h4 h5
  | sliceV h1 h2 hx hlo hhi hmx h3 h4 h5 =>
    exact .sliceV h1 h2 (ha _ (by simp [Op.operands]) _ hx) (hlo.congr fun x hx=>ha x (by simp [Op.operands] at hx ⊢;simp [hx])) (hhi.congr fun x hx=>ha x (by simp [Op.operands] at hx ⊢;simp [hx])) (hmx.congr fun x hx=>ha x (by simp [Op.operands] at hx ⊢;simp [hx])) h3 h4 h5
  | @sliceO t i e ie x s1 u off len full lo hi mx p q off' len' _ _ h1 hx hu hm h2 hlo hhi hmx h3 h4 h5 h6 =>
    have e:=hR s1 (by simp)
    exact .sliceO h1 (ha _ (by simp [Op.operands]) _ hx) (by rw [e];exact hu) (by rw [e];exact hm) (by rw [e];exact h2) (hlo.congr fun x hx=>ha x (by simp [Op.operands] at hx ⊢;simp [hx])) (hhi.congr fun x hx=>ha x (by simp [Op.operands] at hx ⊢;simp [hx])) (hmx.congr fun x hx=>ha x (by simp [Op.operands] at hx ⊢;simp [hx])) h3 h4 h5 h6
  | ext hh=>exact .ext fun st' ha' hR'=>hh st' (fun x hx u hu=>ha' x hx u (ha x hx u hu)) fun s hs=>(hR' s hs).trans (hR s hs)
  | sliceS h1 hx hlo hhi h3 h4 =>
    exact .sliceS h1 (ha _ (by simp [Op.operands]) _ hx) (hlo.congr fun x hx=>ha x (by simp [Op.operands] at hx ⊢;simp [hx])) (hhi.congr fun x hx=>ha x (by simp [Op.operands] at hx ⊢;simp [hx])) h3 h4
  | indexS h1 hx hy h3 h4=>exact .indexS h1 (ha _ (by simp [Op.operands]) _ hx) (ha _ (by simp [Op.operands]) _ hy) h3 h4
  | build h1 hb=>exact .build h1 (hb.congr fun x hx=>ha x (by simpa [Op.operands] using hx))
  | litO h1 hp h2 h3 h4 h5 h6=>rw [← hd (by simp)];exact .litO h1 (hp.congr fun x hx=>ha x (by simpa [Op.operands] using hx)) h2 h3 h4 h5 h6
  | extract hx hi=>exact .extract (ha _ (by simp [Op.operands]) _ hx) hi
  | bin hx hy hb=>exact .bin (ha _ (by simp [Op.operands]) _ hx) (ha _ (by simp [Op.operands]) _ hy) hb
  | un hx hu=>exact .un (ha _ (by simp [Op.operands]) _ hx) hu
  | convI h1 hx=>exact .convI h1 (ha _ (by simp [Op.operands]) _ hx)
  | convS h1 h2 hx=>exact .convS h1 h2 (ha _ (by simp [Op.operands]) _ hx)
  | lenI h1 hx=>exact .lenI h1 (ha _ (by simp [Op.operands,Call.operands]) _ hx)
  | lenV h1 hx=>exact .lenV h1 (ha _ (by simp [Op.operands,Call.operands]) _ hx)
  | lenO h1 hx=>exact .lenO h1 (ha _ (by simp [Op.operands,Call.operands]) _ hx)
  | lenS h1 hx=>exact .lenS h1 (ha _ (by simp [Op.operands,Call.operands]) _ hx)
  | max hx hy=>exact .max (ha _ (by simp [Op.operands,Call.operands]) _ hx) (ha _ (by simp [Op.operands,Call.operands]) _ hy)
  | min hx hy=>exact .min (ha _ (by simp [Op.operands,Call.operands]) _ hx) (ha _ (by simp [Op.operands,Call.operands]) _ hy)
  | nilC hx=>exact .nilC (ha _ (by simp [Op.operands]) _ hx)
  | nilCR hx=>exact .nilCR (ha _ (by simp [Op.operands]) _ hx)
  | makeI h1 h2 hx hy h3 h4 h5 h6=>rw [← hd (by simp)];exact .makeI h1 h2 (ha _ (by simp [Op.operands]) _ hx) (ha _ (by simp [Op.operands]) _ hy) h3 h4 h5 h6
  | makeV h1 h2 hx hy h3 h4 h5 h6=>rw [← hd (by simp)];exact .makeV h1 h2 (ha _ (by simp [Op.operands]) _ hx) (ha _ (by simp [Op.operands]) _ hy) h3 h4 h5 h6
  | call hx hv hs hc h1 h2=>exact .call (ha _ (by simp [Op.operands,Call.operands]) _ hx) (hv.congr fun x hx=>ha x (by simp [Op.operands,Call.operands] at hx ⊢;simp [hx])) ⟨hs.1,fun i hi=>(hs.2 i hi).congr hR⟩ hc h1 h2
  | callN hx hv hs hc h1 h2=>exact .callN (ha _ (by simp [Op.operands,Call.operands]) _ hx) (hv.congr fun x hx=>ha x (by simp [Op.operands,Call.operands] at hx ⊢;simp [hx])) ⟨hs.1,fun i hi=>(hs.2 i hi).congr hR⟩ hc (fun s hs=>by rw [hR s hs];exact h1 s hs) h2
  | callF pre post hx hv hs hc h1 h2 h3 h4=>rw [← hd (by simp)];exact .callF pre post (ha _ (by simp [Op.operands,Call.operands]) _ hx) (hv.congr fun x hx=>ha x (by simp [Op.operands,Call.operands] at hx ⊢;simp [hx])) ⟨hs.1,fun i hi=>(hs.2 i hi).congr hR⟩ hc h1 h2 h3 h4
end
end Go.AVL
end

section
namespace Go.AVL
open Go.RowKit
set_option linter.unusedVariables false
set_option linter.unusedSimpArgs false
def dstAt (ops:Array Oper) (j:Nat):Option Nat:=(ops[j]?).bind (·.dst)
inductive Wt (ops:Array Oper) (st:St):Option (Nat×Bool)→Bool→Prop
  | no:Wt ops st none true
  | yes {j t b want}:dstAt ops j=some t→st.t t = .bool b→Wt ops st (some (j,want)) (b == want)
  | nob {j t want}:dstAt ops j=some t→st.t t = .nob want→Wt ops st (some (j,want)) false
inductive Vu:AV→Prop
  | bad:Vu .bad
  | nob {b}:Vu (.nob b)
theorem Vu.vr {I:Nat→Prop} {w:World} {B:Nat→Blk} {m:Nat→Reg} {v:AV} (h:Vu v):VR I w B m v undef:=by
  cases h with
  | bad=>exact .bad _
  | nob=>exact .nob _ _ (by simp [undef])
inductive PuO (P:Program) (ops:Array Oper) (st:St) (o:Oper):AV→Option Blk→List Nat→Prop
  | run {v ob R}:Wt ops st o.guard true→Pu P st (o.dst.getD 0) o.op v ob R→(o.dst=none→ob=none)→PuO P ops st o v ob R
  | skip {v}:Wt ops st o.guard false→Vu v→PuO P ops st o v none []
inductive SlLen:AV→Nat→Prop
  | fi {k l}:SlLen (.fi k l) l.length
  | fv {es}:SlLen (.fv es) es.length
def St.eff (st:St) (d:Option Nat) (v:AV) (ob:Option Blk):St:=(st.putob (d.getD 0) ob).puto d v
inductive NxI (P:Program) (ops:Array Oper) (o:Oper) (K:St→Prop):St→Prop
  | pu {st:St} {v ob R}:PuO P ops st o v ob R→K (st.eff o.dst v ob)→NxI P ops o K st
  | ef {st:St} {v b}:Wt ops st o.guard true→Ef P st (o.dst.getD 0) o.op v b→K (St.puto ⟨st.t,b⟩ o.dst v)→NxI P ops o K st
  | nilc {st:St} {t t' i e x v len} [h:TI P t i]:Wt ops st o.guard true→o.op = .binOp .eql t x (.const (.slice none 0 0)) t'→i.d = .sl e→Ev st x v→SlLen v len→(∀ b,(b=true→len=0)→K (st.puto o.dst (.bool b)))→NxI P ops o K st
  | split {st:St} {t:Nat} (want:Bool):st.t t = .bad→NxI P ops o K (st.put t (.bool want))→NxI P ops o K (st.put t (.nob want))→NxI P ops o K st
  | maybe {st:St} {v R}:Pu P st (o.dst.getD 0) o.op v none R→K (st.puto o.dst .bad)→NxI P ops o K st
abbrev Nx (P:Program) (ops:Array Oper) (st:St) (o:Oper) (K:St→Prop):Prop:=NxI P ops o K st
def XO (P:Program) (ops:Array Oper):List Oper→St→(St→Prop)→Prop
  | [],st,Q=>Q st
  | o :: os,st,Q=>Nx P ops st o fun st'=>XO P ops os st' Q
def bef (ops:Array Oper) (i:Nat):Nat:=(Region.before ops).getD i 0
def preds (ops:Array Oper) (b:Nat→Nat) (i:Nat):Nat:=((ops.getD i default).after.toList.filter (Region.binds .any)).foldl (fun s e=>s ||| 2 ^ e.on ||| b e.on) 0
def namesOf (ops:Array Oper) (o:Oper):List Nat :=
  (o.op.operands.toList.filterMap fun | .tmp t=>some t|_=>none) ++ (match o.guard with|some (g,_)=>(dstAt ops g).toList|none=>[])
def freeOf (di dj:Option Nat) (ni nj:List Nat):Option (List Nat)×List Nat→Option (List Nat)×List Nat→Bool
  | (some wi,ri),(some wj,rj)=>(wi.all fun x=>!rj.contains x && !wj.contains x) && (wj.all fun x=>!ri.contains x) &&
    (match di with|some t=>!nj.contains t && dj != some t|none=>true) && (match dj with|some t=>!ni.contains t|none=>true)
  | _,_=>false
def comOk (ops:Array Oper) (fr:List (Option (List Nat)×List Nat)):Bool :=
  (List.range ops.size).all (fun i=>bef ops i == preds ops (bef ops) i && ((ops.getD i default).after.toList.filter (Region.binds .any)).all fun e=>Nat.blt e.on i) &&
  (List.range ops.size).all (fun i=>(List.range i).all fun j=>(bef ops i).testBit j || freeOf (dstAt ops i) (dstAt ops j) (namesOf ops (ops.getD i default)) (namesOf ops (ops.getD j default)) (fr.getD i (none,[])) (fr.getD j (none,[])))
structure Nd (P:Program) (ops:Array Oper) (st:St) (o:Oper) (f:St→St) (W:Option (List Nat)) (R:List Nat):Prop where
  sem : ∀ s,(W=none→s=st)→(∀ x ∈ namesOf ops o,s.t x=st.t x)→(∀ x ∈ R,s.b x=st.b x)→∀ K:St→Prop,K (f s)→Nx P ops s o K
  cst:W=none→∀ s,f s=f st
  tt : ∀ w,W=some w→∀ s x,(f s).t x=if o.dst=some x then (f st).t x else s.t x
  bb : ∀ w,W=some w→∀ s x,(f s).b x=if x ∈ w then (f st).b x else s.b x
def XG (P:Program) (ops:Array Oper):List Oper→List (Option (List Nat)×List Nat)→St→(St→Prop)→Prop
  | [],fr,st,Q=>comOk ops fr.reverse=true∧Q st
  | o :: os,fr,st,Q=>∃ f W R,Nd P ops st o f W R∧XG P ops os ((W,R) :: fr) (f st) Q
section
variable {P : Program} {c : Ctx P} {w w' : World} {st : St} {a : Act} {ops : Array Oper}
theorem Wt.wanted {o:Oper} {I:Nat→Prop} {m:Nat→Reg} (h:SRx c I m st a w) {b:Bool} (hw:Wt ops st o.guard b):Region.wanted o (yielded ops a.tmps)=b:=by
  unfold Region.wanted
  generalize o.guard=g at hw
  cases hw with
  | no=>rfl
  | @yes j t b' want hd ht =>
    have hv:=h.tmp t
    rw [ht] at hv
    have e:=hv.bool_inv
    have hlt:t < a.tmps.size:=by
      rcases Nat.lt_or_ge t a.tmps.size with h|h
      · exact h
      · rw [Array.getD_eq_getD_getElem?,Array.getElem?_eq_none h] at e
        simp [undef] at e
    have ht':a.tmps[t]?=some (.bool b'):=by
      rw [Array.getD_eq_getD_getElem?] at e
      rw [Array.getElem?_eq_getElem hlt] at e ⊢
      simpa using e
    unfold dstAt at hd
    simp only [yielded,hd,Option.bind_some,ht']
    cases b' <;> cases want <;> rfl
  | @nob j t want hd ht =>
    have hv:=h.tmp t
    rw [ht] at hv
    have hne:a.tmps.getD t undef≠.bool want:=by
      generalize a.tmps.getD t undef=V at hv
      cases hv
      assumption
    unfold dstAt at hd
    simp only [yielded,hd,Option.bind_some]
    rw [Array.getD_eq_getD_getElem?] at hne
    cases hx:a.tmps[t]? with
    | none=>rfl
    | some V =>
      rw [hx] at hne
      simp only [Option.getD_some] at hne
      cases V <;> first|rfl|(rename_i b';cases b' <;> cases want <;> first|rfl|exact absurd rfl hne)
theorem SRx.eff {I:Nat→Prop} {m:Nat→Reg} {d:Option Nat} {ob:Option Blk} {v:AV} {V:Value} (h:SRx c I m (st.putob (d.getD 0) ob) a w) (hv:VR I w (st.putob (d.getD 0) ob).b m v V) (hd : ∀ x,d=some x→x < c.n) :
    SRx c I m (st.eff d v ob) (a.put d V) w:=h.put hv d hd
theorem PuO.sound {o:Oper} {v:AV} {ob:Option Blk} {R:List Nat} (hp:PuO P ops st o v ob R) (h:SR c st a w) {i:Nat} (hi:ops[i]?=some o) (hd : ∀ x,o.dst=some x→x < c.n) {K:Act→World→Prop} {Q:Exit→Act→World→Prop}
    (hK : ∀ a' w',SR c (st.eff o.dst v ob) a' w'→K a' w'):wpOp P ops Q i K a w:=by
  obtain ⟨I,m,hs⟩:=h
  unfold wpOp
  simp only [hi]
  cases hp with
  | run hw hpu hn =>
    rw [if_pos (hw.wanted hs)]
    left
    exact Pu.sound hs hpu K Q fun V w' I' m' h1 h2=>hK _ _ ⟨I',m',h1.eff h2 hd⟩
  | skip hw hu =>
    rw [if_neg (by rw [hw.wanted hs];simp)]
    exact hK _ _ ⟨I,m,hs.put hu.vr o.dst hd⟩
theorem Nx.sound {o:Oper} {K0:St→Prop} (hp:Nx P ops st o K0) (h:SR c st a w) {i:Nat} (hi:ops[i]?=some o) (hd : ∀ x,o.dst=some x→x < c.n) {K:Act→World→Prop} {Q:Exit→Act→World→Prop}
    (hK : ∀ st' a' w',K0 st'→SR c st' a' w'→K a' w'):wpOp P ops Q i K a w:=by
  induction hp with
  | pu hpu hk=>exact hpu.sound h hi hd fun a' w' h'=>hK _ _ _ hk h'
  | ef hw he hk =>
    obtain ⟨I,m,hs⟩:=h
    unfold wpOp
    simp only [hi]
    rw [if_pos (hw.wanted hs)]
    left
    exact Ef.sound hs he K Q fun V w' I' m' h1 h2=>hK _ _ _ hk ⟨I',m',h1.put h2 o.dst hd⟩
  | @split st t want hb h1 h2 ih1 ih2 =>
    obtain ⟨I,m,hs⟩:=h
    have key : ∀ v,VR I w st.b m v (a.tmps.getD t undef)→SR c (st.put t v) a w:=fun v hv=>⟨I,m,hs.wr,hs.def0,hs.sz,fun x=>by
      show VR I w st.b m (upd st.t t v x) _
      by_cases e:x=t
      · subst e;rw [upd_same];exact hv
      · rw [upd_ne _ _ e];exact hs.tmp x⟩
    by_cases hw:a.tmps.getD t undef = .bool want
    · exact ih1 (key _ (by rw [hw];exact .bool _))
    · exact ih2 (key _ (.nob _ _ hw))
  | maybe hpu hk =>
    obtain ⟨I,m,hs⟩:=h
    unfold wpOp
    simp only [hi]
    split
    · left
      refine Pu.sound hs hpu K Q fun V w' I' m' h1 h2=>hK _ _ _ hk ⟨I',m',?_⟩
      exact SRx.put h1 (.bad _) o.dst hd
    · exact hK _ _ _ hk ⟨I,m,hs.put (.bad _) o.dst hd⟩
  | @nilc st t t' ti e x v len ht hw ho hde hx hsl hk =>
    obtain ⟨I,m,hs⟩:=h
    unfold wpOp
    simp only [hi]
    rw [if_pos (hw.wanted hs)]
    left
    obtain ⟨inf,ds,z,F⟩:=ht.facts
    have hu:=F.und
    rw [td_sl (F.dd.symm.trans hde)] at hu
    have hv:=hx.vr hs
    obtain ⟨ad,cap,eV,hn⟩ : ∃ ad cap,a.eval x = .slice ad len cap∧(ad.isNone=true→len=0):=by
      cases hsl with
      | fi =>
        obtain ⟨ad,cap,e1,_,hk⟩:=hv.fi_inv
        refine ⟨ad,cap,e1,fun hn=>?_⟩
        rcases Nat.eq_zero_or_pos (List.length _) with h0|h0
        · exact h0
        · obtain ⟨q,rfl,_⟩:=hk 0 h0;cases hn
      | fv =>
        obtain ⟨ad,cap,sz,U,e1,_,_,hk⟩:=hv.fv_inv
        refine ⟨ad,cap,e1,fun hn=>?_⟩
        rcases Nat.eq_zero_or_pos (List.length _) with h0|h0
        · exact h0
        · obtain ⟨_,_,q,rfl,_⟩:=hk 0 h0;cases hn
    have hrun:(execOp a.eval o).run P w = .ok (.value (.bool ad.isNone)) w:=by
      have e1:execOp a.eval o=(do pure (.value (← (do eqGuard .eql t x (.const (.slice none 0 0)) (a.eval x) (.slice none 0 0);binOp .eql t (a.eval x) (.slice none 0 0):Sem Value))):Sem Next):=by unfold execOp;rw [ho];rfl
      rw [e1,eV]
      have e2:(do eqGuard .eql t x (.const (.slice none 0 0)) (.slice ad len cap) (.slice none 0 0);binOp .eql t (.slice ad len cap) (.slice none 0 0):Sem Value).run P w = .ok (.bool ad.isNone) w:=by
        simp only [Sem.run_bind,run_eqGuard (P:=P) (w:=w) (op:=.eql) (t:=t) (x:=x) (y:=.const (.slice none 0 0)) (A:=.slice ad len cap) (B:=.slice none 0 0) rfl (by simp),Result.andThen_ok]
        show ((do pure (.bool (← Op.equal t (.slice ad len cap) (.slice none 0 0))):Sem Value)).run P w=_
        simp [Sem.run_bind,run_equal_slice_nil w t e ad len cap hu]
      rw [Sem.run_bind,e2]
      rfl
    unfold Oper.wp
    rw [hrun]
    exact hK _ _ _ (hk ad.isNone hn) ⟨I,m,hs.put (.bool _) o.dst hd⟩
theorem XO.sound {Q:St→Prop} {Qc:Exit→Act→World→Prop} (hQ : ∀ st' a' w',Q st'→SR c st' a' w'→Qc .normal a' w') (hdst : ∀ (i:Nat) (o:Oper),ops[i]?=some o→∀ x,o.dst=some x→x < c.n) :
    ∀ (os:List Oper) (i:Nat) (st:St) (a:Act) (w:World),ops.toList.drop i=os→XO P ops os st Q→SR c st a w→wpOps P ops Qc (List.range' i os.length) a w
  | [],i,st,a,w,_,h,hs=>hQ st a w h hs
  | o :: os,i,st,a,w,he,h,hs=>by
    have hi:ops[i]?=some o:=by
      rw [← Array.getElem?_toList]
      have:=congrArg (·[0]?) he
      simpa using this
    rw [List.length_cons,List.range'_succ,wpOps_cons]
    refine Nx.sound h hs hi (hdst i o hi) fun st' a' w' h' hs'=>XO.sound hQ hdst os (i + 1) st' a' w' ?_ h' hs'
    have:=congrArg List.tail he
    simpa using this
end
end Go.AVL
end

section
namespace Go.AVL
open Go.RowKit
set_option linter.unusedVariables false
set_option linter.unusedSimpArgs false
theorem testBit_fold (b:Nat→Nat) (j:Nat) : ∀ (l:List Edge) (s:Nat),(l.foldl (fun s e=>s ||| 2 ^ e.on ||| b e.on) s).testBit j=true ↔ s.testBit j=true∨∃ e ∈ l,e.on=j∨(b e.on).testBit j=true
  | [],s=>by simp
  | e :: l,s=>by
    rw [List.foldl_cons,testBit_fold b j l]
    simp only [Nat.testBit_or,Bool.or_eq_true,List.mem_cons,exists_eq_or_imp,Nat.testBit_two_pow,decide_eq_true_eq]
    constructor
    · rintro ((h|h)|h)
      · exact h.elim .inl fun h=>.inr (.inl (.inl h))
      · exact .inr (.inl (.inr h))
      · exact .inr (.inr h)
    · rintro (h|(h|h)|h)
      · exact .inl (.inl (.inl h))
      · exact .inl (.inl (.inr h))
      · exact .inl (.inr h)
      · exact .inr h
structure DrawF (ops:Array Oper):Prop where
  pred : ∀ i,i < ops.size→bef ops i=preds ops (bef ops) i
  less : ∀ (i:Nat) (o:Oper),ops[i]?=some o→∀ e ∈ o.after,Region.binds .any e=true→e.on < i
theorem getD_some {ops:Array Oper} {i:Nat} {o:Oper} (h:ops[i]?=some o):ops.getD i default=o:=by rw [Array.getD_eq_getD_getElem?,h];rfl
structure Free (ops:Array Oper) (oi oj:Oper) (wi wj:Option (List Nat)) (ri rj:List Nat):Prop where
  i:wi≠none
  j:wj≠none
  w : ∀ a b,wi=some a→wj=some b→∀ x ∈ a,x ∉ rj∧x ∉ b
  r : ∀ b,wj=some b→∀ x ∈ b,x ∉ ri
  d : ∀ t,oi.dst=some t→t ∉ namesOf ops oj∧oj.dst≠some t
  n : ∀ t,oj.dst=some t→t ∉ namesOf ops oi
theorem comOk.facts {ops:Array Oper} {fr:List (Option (List Nat)×List Nat)} (h:comOk ops fr=true):DrawF ops ∧
    ∀ i j oi oj,j < i→ops[i]?=some oi→ops[j]?=some oj→(bef ops i).testBit j=true∨Free ops oi oj (fr.getD i (none,[])).1 (fr.getD j (none,[])).1 (fr.getD i (none,[])).2 (fr.getD j (none,[])).2:=by
  unfold comOk at h
  simp only [Bool.and_eq_true,List.all_eq_true,List.mem_range,Bool.or_eq_true] at h
  obtain ⟨h2,h3⟩:=h
  refine ⟨⟨fun i hi=>by simpa using (h2 i hi).1,fun i o hi e he hb=>?_⟩,fun i j oi oj hij hi hj=>?_⟩
  · have hlt:=lt_of_some hi
    have:=(h2 i hlt).2 e (by
      rw [getD_some hi,List.mem_filter]
      exact ⟨by simpa using he,hb⟩)
    simp [Nat.blt] at this
    omega
  · rcases h3 i (lt_of_some hi) j hij with h|h
    · exact .inl h
    · right
      have di:dstAt ops i=oi.dst:=by simp [dstAt,hi]
      have dj:dstAt ops j=oj.dst:=by simp [dstAt,hj]
      rw [getD_some hi,getD_some hj,di,dj] at h
      revert h
      generalize fr.getD i (none,[])=p
      generalize fr.getD j (none,[])=q
      intro h
      obtain ⟨a,ri⟩:=p
      obtain ⟨b,rj⟩:=q
      cases a with
      | none=>simp [freeOf] at h
      | some a =>
        cases b with
        | none=>simp [freeOf] at h
        | some b =>
          simp only [freeOf,Bool.and_eq_true,List.all_eq_true] at h
          obtain ⟨⟨⟨k1,k2⟩,k3⟩,k4⟩:=h
          refine ⟨nofun,nofun,fun a' b' ea eb x hx=>?_,fun b' eb x hx=>?_,fun t ht=>?_,fun t ht=>?_⟩
          · cases ea;cases eb
            have:=k1 x hx
            simpa using this
          · cases eb
            have:=k2 x hx
            simpa using this
          · rw [ht] at k3
            simpa using k3
          · rw [ht] at k4
            simpa using k4
section
variable {P : Program} {c : Ctx P} {ops : Array Oper}
def Listed (listed:Array Bool) (i:Nat):Prop:=listed.getD i false=true
theorem DrawF.before (D:DrawF ops) {listed:Array Bool} (hdown : ∀ i,Listed listed i→i < ops.size→∀ o,ops[i]?=some o→∀ e ∈ o.after,Region.binds .any e=true→Listed listed e.on) :
    ∀ (i j:Nat),i < ops.size→(∀ o,ops[i]?=some o→∀ e ∈ o.after,Region.binds .any e=true→Listed listed e.on)→(bef ops i).testBit j=true→Listed listed j∧j < i:=by
  intro i
  induction i using Nat.strongRecOn with
  | _ i ih =>
    intro j hi hp hb
    obtain ⟨o,ho⟩ : ∃ o,ops[i]?=some o:=⟨ops[i],Array.getElem?_eq_getElem hi⟩
    rw [D.pred i hi] at hb
    unfold preds at hb
    rw [testBit_fold,getD_some ho] at hb
    rcases hb with hb|⟨e,he,hb⟩
    · simp at hb
    · rw [List.mem_filter] at he
      have hem:e ∈ o.after:=by simpa using he.1
      have hlt:=D.less i o ho e hem he.2
      have hl:=hp o ho e hem he.2
      rcases hb with rfl|hb
      · exact ⟨hl,hlt⟩
      · have:=ih e.on hlt j (by omega) (fun o' ho' e' he' hb'=>hdown e.on hl (by omega) o' ho' e' he' hb') hb
        exact ⟨this.1,by omega⟩
def unl (listed:Array Bool) (n:Nat):Nat:=((List.range n).filter fun i=>!listed.getD i false).length
theorem unl_zero {listed:Array Bool} {n:Nat} (h:unl listed n=0) : ∀ i,i < n→Listed listed i:=by
  intro i hi
  unfold unl at h
  have:=List.eq_nil_of_length_eq_zero h
  rw [List.filter_eq_nil_iff] at this
  have:=this i (List.mem_range.2 hi)
  simpa [Listed] using this
theorem unl_set {listed:Array Bool} {n i:Nat} (hi:i < n) (hs:listed.size=n) (hu : ¬ Listed listed i):unl (listed.setIfInBounds i true) n + 1≤unl listed n:=by
  unfold unl
  have key : ∀ (l:List Nat),i ∈ l→l.Nodup→(l.filter fun x=>!(listed.setIfInBounds i true).getD x false).length + 1≤(l.filter fun x=>!listed.getD x false).length:=by
    intro l
    induction l with
    | nil=>intro h;cases h
    | cons x l ih =>
      intro hm hn
      rw [List.nodup_cons] at hn
      by_cases e:x=i
      · subst e
        have e1:(listed.setIfInBounds x true).getD x false=true:=by simp [hs,hi]
        have e2:listed.getD x false=false:=by simpa [Listed] using hu
        have e3:(l.filter fun y=>!(listed.setIfInBounds x true).getD y false)=(l.filter fun y=>!listed.getD y false):=by
          apply List.filter_congr
          intro y hy
          have hne:x≠y:=fun e=>hn.1 (e ▸ hy)
          simp [Array.getD_eq_getD_getElem?,Array.getElem?_setIfInBounds_ne hne]
        rw [List.filter_cons_of_neg (by simp [e1]),List.filter_cons_of_pos (by simp [e2]),e3]
        simp
      · have hm':i ∈ l:=by
          rcases List.mem_cons.1 hm with h|h
          · exact absurd h.symm e
          · exact h
        have h1:=ih hm' hn.2
        have e1:(listed.setIfInBounds i true).getD x false=listed.getD x false:=by
          simp [Array.getD_eq_getD_getElem?,Array.getElem?_setIfInBounds_ne (Ne.symm e)]
        simp only [List.filter_cons,e1]
        cases (!listed.getD x false)
        · rw [if_neg (by simp),if_neg (by simp)]
          exact h1
        · rw [if_pos rfl,if_pos rfl,List.length_cons,List.length_cons]
          omega
  exact key _ (List.mem_range.2 hi) List.nodup_range
theorem listed_set {listed:Array Bool} {i j:Nat} (hi:i < listed.size):Listed (listed.setIfInBounds i true) j ↔ j=i∨Listed listed j:=by
  unfold Listed
  by_cases e:j=i
  · subst e;simp [hi]
  · simp [Array.getD_eq_getD_getElem?,Array.getElem?_setIfInBounds_ne (Ne.symm e),e]
theorem DrawF.all (D:DrawF ops) {listed:Array Bool} (hs:listed.size=ops.size) (h:Region.ready .any ops listed = []) : ∀ i,i < ops.size→Listed listed i:=by
  intro i
  induction i using Nat.strongRecOn with
  | _ i ih =>
    intro hi
    by_cases hl:Listed listed i
    · exact hl
    exfalso
    obtain ⟨o,ho⟩ : ∃ o,ops[i]?=some o:=⟨ops[i],Array.getElem?_eq_getElem hi⟩
    have:i ∈ Region.ready .any ops listed:=by
      rw [mem_ready]
      refine ⟨?_,o,ho,fun e he hb=>?_⟩
      · have:listed.getD i false=false:=by
          cases hb:listed.getD i false
          · rfl
          · exact absurd hb hl
        rw [Array.getD_eq_getD_getElem?] at this ⊢
        rw [Array.getElem?_eq_getElem (by omega)] at this ⊢
        exact this
      · have hlt:=D.less i o ho e he hb
        exact ih e.on hlt (by omega)
    rw [h] at this
    cases this
theorem ready_spec {listed:Array Bool} {i:Nat} (h:i ∈ Region.ready .any ops listed):i < ops.size∧¬ Listed listed i∧∃ o,ops[i]?=some o∧∀ e ∈ o.after,Region.binds .any e=true→Listed listed e.on:=by
  rw [mem_ready] at h
  obtain ⟨h1,o,ho,h2⟩:=h
  refine ⟨lt_of_some ho,fun hl=>?_,o,ho,h2⟩
  unfold Listed at hl
  rw [Array.getD_eq_getD_getElem?] at h1 hl
  cases hx:listed[i]? with
  | none=>rw [hx] at h1;simp at h1
  | some b=>rw [hx] at h1 hl;simp at h1 hl;rw [h1] at hl;cases hl
end
end Go.AVL
end

section
namespace Go.AVL
open Go.RowKit
set_option linter.unusedVariables false
set_option linter.unusedSimpArgs false
section
variable {P : Program} {c : Ctx P} {ops : Array Oper}
theorem St.ext' {s s':St} (h : ∀ x,s.t x=s'.t x) (h' : ∀ x,s.b x=s'.b x):s=s':=by
  cases s;cases s'
  have h1:=funext h
  have h2:=funext h'
  simp only at h1 h2
  rw [h1,h2]
structure Dat (P:Program) (ops:Array Oper) (S:Nat→St) (f:Nat→St→St) (W:Nat→Option (List Nat)) (R:Nat→List Nat):Prop where
  nd : ∀ j o,ops[j]?=some o→Nd P ops (S j) o (f j) (W j) (R j)
  st : ∀ j,j < ops.size→S (j + 1)=f j (S j)
  fr : ∀ i j oi oj,j < i→ops[i]?=some oi→ops[j]?=some oj→(bef ops i).testBit j=true∨Free ops oi oj (W i) (W j) (R i) (R j)
theorem XG.data {Q:St→Prop} : ∀ (os:List Oper) (fr:List (Option (List Nat)×List Nat)) (st:St),ops.toList.drop fr.length=os→XG P ops os fr st Q →
    ∃ (S:Nat→St) (f:Nat→St→St) (W:Nat→Option (List Nat)) (R:Nat→List Nat) (gr:List (Option (List Nat)×List Nat)),S fr.length=st ∧
      (∀ j o,fr.length≤j→ops[j]?=some o→Nd P ops (S j) o (f j) (W j) (R j)∧S (j + 1)=f j (S j)∧gr.getD j (none,[])=(W j,R j)) ∧
      (∀ j,j < fr.length→gr.getD j (none,[])=fr.reverse.getD j (none,[]))∧comOk ops gr=true∧Q (S ops.size):=by
  intro os
  induction os with
  | nil =>
    intro fr st hd h
    have hge:ops.size≤fr.length:=by
      have:=congrArg List.length hd
      simp at this
      omega
    exact ⟨fun _=>st,fun _=>id,fun _=>none,fun _=>[],fr.reverse,rfl,fun j o hj ho=>by have:=lt_of_some ho;omega,fun _ _=>rfl,h.1,h.2⟩
  | cons o os ih =>
    intro fr st hd h
    obtain ⟨g,w,r,h1,h2⟩:=h
    have hd':ops.toList.drop (((w,r) :: fr).length)=os:=by
      have:=congrArg List.tail hd
      simpa using this
    have ho:ops[fr.length]?=some o:=by
      rw [← Array.getElem?_toList]
      have:=congrArg (·[0]?) hd
      simpa using this
    have hlt:=lt_of_some ho
    obtain ⟨S,f,W,R,gr,e1,e2,e3,e4,e5⟩:=ih ((w,r) :: fr) _ hd' h2
    simp only [List.length_cons] at e1 e2 e3
    have hn:ops.size≠fr.length:=by omega
    refine ⟨fun j=>if j=fr.length then st else S j,fun j=>if j=fr.length then g else f j,fun j=>if j=fr.length then w else W j,fun j=>if j=fr.length then r else R j,gr,if_pos rfl,fun j o' hj ho'=>?_,fun j hj=>?_,e4,?_⟩
    · by_cases e:j=fr.length
      · subst e
        rw [ho] at ho'
        cases ho'
        have hne : ¬ (fr.length + 1=fr.length):=by omega
        simp only [if_true,hne,if_false]
        refine ⟨h1,e1,?_⟩
        rw [e3 fr.length (by omega)]
        simp [List.getD]
      · have hne : ¬ (j + 1=fr.length):=by omega
        simp only [e,hne,if_false]
        exact e2 j o' (by omega) ho'
    · rw [e3 j (by omega)]
      have:j < fr.reverse.length:=by simpa using hj
      simp [List.getD,List.getElem?_append_left this]
    · simp only [hn,if_false]
      exact e5
def mrg (f:Nat→St→St) (l:Nat→Bool) (s:St):Nat→St
  | 0=>s
  | k + 1=>if l k=true then f k (mrg f l s k) else mrg f l s k
variable {S : Nat → St} {f : Nat → St → St} {W : Nat → Option (List Nat)} {R : Nat → List Nat} {l : Nat → Bool}
theorem some_op {k:Nat} (h:k < ops.size) : ∃ o,ops[k]?=some o:=⟨ops[k],Array.getElem?_eq_getElem h⟩
theorem Dat.below (D:Dat P ops S f W R) (x:Nat) : ∀ k,k≤ops.size →
    ((∀ j o,j < k→ops[j]?=some o→l j=false→W j≠none∧o.dst≠some x)→(mrg f l (S 0) k).t x=(S k).t x) ∧
    ((∀ j o,j < k→ops[j]?=some o→l j=false→∃ w,W j=some w∧x ∉ w)→(mrg f l (S 0) k).b x=(S k).b x):=by
  intro k
  induction k with
  | zero=>exact fun _=>⟨fun _=>rfl,fun _=>rfl⟩
  | succ k ih =>
    intro hk
    obtain ⟨o,ho⟩:=some_op (ops:=ops) (k:=k) (by omega)
    obtain ⟨i1,i2⟩:=ih (by omega)
    have N:=D.nd k o ho
    rw [D.st k (by omega)]
    unfold mrg
    refine ⟨fun h=>?_,fun h=>?_⟩
    · have ih':=i1 fun j o hj=>h j o (by omega)
      cases hl:l k with
      | true =>
        rw [if_pos rfl]
        cases hw:W k with
        | none=>rw [N.cst hw]
        | some w =>
          rw [N.tt w hw]
          split
          · rfl
          · rename_i hne
            rw [ih',N.tt w hw (S k),if_neg hne]
      | false =>
        rw [if_neg (by simp)]
        obtain ⟨h1,h2⟩:=h k o (by omega) ho hl
        obtain ⟨w,hw⟩:=Option.ne_none_iff_exists'.1 h1
        rw [ih',N.tt w hw (S k),if_neg h2]
    · have ih':=i2 fun j o hj=>h j o (by omega)
      cases hl:l k with
      | true =>
        rw [if_pos rfl]
        cases hw:W k with
        | none=>rw [N.cst hw]
        | some w =>
          rw [N.bb w hw]
          split
          · rfl
          · rename_i hne
            rw [ih',N.bb w hw (S k),if_neg hne]
      | false =>
        rw [if_neg (by simp)]
        obtain ⟨w,hw,h2⟩:=h k o (by omega) ho hl
        rw [ih',N.bb w hw (S k),if_neg h2]
theorem Dat.above (D:Dat P ops S f W R) (x i:Nat) (s:St) : ∀ k,i≤k→k≤ops.size →
    ((∀ j o,i≤j→j < k→ops[j]?=some o→l j=true→W j≠none∧o.dst≠some x)→(mrg f l s k).t x=(mrg f l s i).t x) ∧
    ((∀ j o,i≤j→j < k→ops[j]?=some o→l j=true→∃ w,W j=some w∧x ∉ w)→(mrg f l s k).b x=(mrg f l s i).b x):=by
  intro k
  induction k with
  | zero =>
    intro hi _
    obtain rfl:i=0:=by omega
    exact ⟨fun _=>rfl,fun _=>rfl⟩
  | succ k ih =>
    intro hi hk
    by_cases e:i=k + 1
    · subst e;exact ⟨fun _=>rfl,fun _=>rfl⟩
    obtain ⟨o,ho⟩:=some_op (ops:=ops) (k:=k) (by omega)
    obtain ⟨i1,i2⟩:=ih (by omega) (by omega)
    have N:=D.nd k o ho
    rw [mrg.eq_def f l s (k + 1)]
    simp only
    refine ⟨fun h=>?_,fun h=>?_⟩
    · rw [← i1 fun j o hj hjk=>h j o hj (by omega)]
      cases hl:l k with
      | true =>
        rw [if_pos rfl]
        obtain ⟨h1,h2⟩:=h k o (by omega) (by omega) ho hl
        obtain ⟨w,hw⟩:=Option.ne_none_iff_exists'.1 h1
        rw [N.tt w hw,if_neg h2]
      | false=>rw [if_neg (by simp)]
    · rw [← i2 fun j o hj hjk=>h j o hj (by omega)]
      cases hl:l k with
      | true =>
        rw [if_pos rfl]
        obtain ⟨w,hw,h2⟩:=h k o (by omega) (by omega) ho hl
        rw [N.bb w hw,if_neg h2]
      | false=>rw [if_neg (by simp)]
structure Turn (ops:Array Oper) (l:Nat→Bool) (i:Nat):Prop where
  lt:i < ops.size
  not:l i=false
  pre : ∀ j,(bef ops i).testBit j=true→l j=true
  down : ∀ k,k < ops.size→l k=true→(bef ops k).testBit i=false
theorem Dat.free1 (D:Dat P ops S f W R) {i j:Nat} {o oj:Oper} (T:Turn ops l i) (ho:ops[i]?=some o) (hj:ops[j]?=some oj) (hji:j < i) (hl:l j=false):Free ops o oj (W i) (W j) (R i) (R j):=by
  rcases D.fr i j o oj hji ho hj with h|h
  · rw [T.pre j h] at hl;cases hl
  · exact h
theorem Dat.free2 (D:Dat P ops S f W R) {i j:Nat} {o oj:Oper} (T:Turn ops l i) (ho:ops[i]?=some o) (hj:ops[j]?=some oj) (hji:i < j) (hl:l j=true):Free ops oj o (W j) (W i) (R j) (R i):=by
  rcases D.fr j i oj o hji hj ho with h|h
  · rw [T.down j (lt_of_some hj) hl] at h;cases h
  · exact h
theorem Dat.at (D:Dat P ops S f W R) {i:Nat} {o:Oper} (T:Turn ops l i) (ho:ops[i]?=some o) :
    (W i=none→mrg f l (S 0) ops.size=S i)∧(∀ x ∈ namesOf ops o,(mrg f l (S 0) ops.size).t x=(S i).t x)∧(∀ x ∈ R i,(mrg f l (S 0) ops.size).b x=(S i).b x):=by
  have hi:=T.lt
  refine ⟨fun hw=>?_,fun x hx=>?_,fun x hx=>?_⟩
  · have k1 : ∀ j oj,j < i→ops[j]?=some oj→l j=false→False:=fun j oj hj hoj hl=>(D.free1 T ho hoj hj hl).i hw
    have k2 : ∀ j oj,i≤j→j < ops.size→ops[j]?=some oj→l j=true→False:=fun j oj hj _ hoj hl=>by
      by_cases e:j=i
      · subst e;rw [T.not] at hl;cases hl
      · exact (D.free2 T ho hoj (by omega) hl).j hw
    exact St.ext' (fun x=>((D.above x i (S 0) ops.size (by omega) (Nat.le_refl _)).1 fun j o h1 h2 h3 h4=>(k2 j o h1 h2 h3 h4).elim).trans ((D.below x i (by omega)).1 fun j o h1 h2 h3=>(k1 j o h1 h2 h3).elim))
      (fun x=>((D.above x i (S 0) ops.size (by omega) (Nat.le_refl _)).2 fun j o h1 h2 h3 h4=>(k2 j o h1 h2 h3 h4).elim).trans ((D.below x i (by omega)).2 fun j o h1 h2 h3=>(k1 j o h1 h2 h3).elim))
  · refine ((D.above x i (S 0) ops.size (by omega) (Nat.le_refl _)).1 fun j oj h1 h2 h3 h4=>?_).trans ((D.below x i (by omega)).1 fun j oj h1 h2 h3=>?_)
    · by_cases e:j=i
      · subst e;rw [T.not] at h4;cases h4
      · have F:=D.free2 T ho h3 (by omega) h4
        exact ⟨F.i,fun hd=>(F.d x hd).1 hx⟩
    · have F:=D.free1 T ho h2 h1 h3
      exact ⟨F.j,fun hd=>F.n x hd hx⟩
  · refine ((D.above x i (S 0) ops.size (by omega) (Nat.le_refl _)).2 fun j oj h1 h2 h3 h4=>?_).trans ((D.below x i (by omega)).2 fun j oj h1 h2 h3=>?_)
    · by_cases e:j=i
      · subst e;rw [T.not] at h4;cases h4
      · have F:=D.free2 T ho h3 (by omega) h4
        obtain ⟨w,hw⟩:=Option.ne_none_iff_exists'.1 F.i
        obtain ⟨w',hw'⟩:=Option.ne_none_iff_exists'.1 F.j
        exact ⟨w,hw,fun hm=>(F.w w w' hw hw' x hm).1 hx⟩
    · have F:=D.free1 T ho h2 h1 h3
      obtain ⟨w',hw'⟩:=Option.ne_none_iff_exists'.1 F.j
      exact ⟨w',hw',fun hm=>F.r w' hw' x hm hx⟩
theorem Dat.next (D:Dat P ops S f W R) {i:Nat} {o:Oper} (T:Turn ops l i) (ho:ops[i]?=some o) {l':Nat→Bool} (h1:l' i=true) (h2 : ∀ j,j≠i→l' j=l j) (s:St):mrg f l' s ops.size=f i (mrg f l s ops.size):=by
  have hi:=T.lt
  have N:=D.nd i o ho
  have hb : ∀ k,k≤i→mrg f l' s k=mrg f l s k:=by
    intro k
    induction k with
    | zero=>exact fun _=>rfl
    | succ k ih =>
      intro hk
      unfold mrg
      rw [h2 k (by omega),ih (by omega)]
  have ha : ∀ k,i < k→k≤ops.size→mrg f l' s k=f i (mrg f l s k):=by
    intro k
    induction k with
    | zero=>intro h;omega
    | succ k ih =>
      intro hk hn
      by_cases e:k=i
      · subst e
        rw [mrg.eq_def f l' s (k + 1),mrg.eq_def f l s (k + 1)]
        simp only
        rw [if_pos h1,if_neg (by simp [T.not]),hb k (Nat.le_refl _)]
      · have ih':=ih (by omega) (by omega)
        rw [mrg.eq_def f l' s (k + 1),mrg.eq_def f l s (k + 1)]
        simp only
        rw [h2 k e,ih']
        cases hl:l k with
        | false=>rw [if_neg (by simp),if_neg (by simp)]
        | true =>
          rw [if_pos rfl,if_pos rfl]
          obtain ⟨ok,hok⟩:=some_op (ops:=ops) (k:=k) (by omega)
          have F:=D.free2 T ho hok (by omega) hl
          have Nk:=D.nd k ok hok
          obtain ⟨w,hw⟩:=Option.ne_none_iff_exists'.1 F.i
          obtain ⟨w',hw'⟩:=Option.ne_none_iff_exists'.1 F.j
          refine St.ext' (fun x=>?_) (fun x=>?_)
          · rw [Nk.tt w hw (f i _),N.tt w' hw' (f k _),N.tt w' hw' (mrg f l s k),Nk.tt w hw (mrg f l s k)]
            by_cases e1:ok.dst=some x
            · have:=(F.d x e1).2
              rw [if_pos e1,if_neg this,if_pos e1]
            · rw [if_neg e1]
              split <;> rfl
          · rw [Nk.bb w hw (f i _),N.bb w' hw' (f k _),N.bb w' hw' (mrg f l s k),Nk.bb w hw (mrg f l s k)]
            by_cases e1:x ∈ w
            · have:=(F.w w w' hw hw' x e1).2
              rw [if_pos e1,if_neg this,if_pos e1]
            · rw [if_neg e1]
              split <;> rfl
  exact ha _ hi (Nat.le_refl _)
theorem Dat.done (D:Dat P ops S f W R) (h : ∀ i,i < ops.size→l i=true):mrg f l (S 0) ops.size=S ops.size :=
  St.ext' (fun x=>(D.below x ops.size (Nat.le_refl _)).1 fun j o h1 _ h3=>by rw [h j h1] at h3;cases h3) (fun x=>(D.below x ops.size (Nat.le_refl _)).2 fun j o h1 _ h3=>by rw [h j h1] at h3;cases h3)
theorem XG.sound (DF:DrawF ops) (D:Dat P ops S f W R) {Q:St→Prop} {Qc:Exit→Act→World→Prop} (hQ : ∀ st' a' w',Q st'→SR c st' a' w'→Qc .normal a' w') (hdst : ∀ (i:Nat) (o:Oper),ops[i]?=some o→∀ x,o.dst=some x→x < c.n) (hq:Q (S ops.size)) :
    ∀ (fuel:Nat) (listed:Array Bool) (a:Act) (w:World),listed.size=ops.size→unl listed ops.size≤fuel →
      (∀ i,Listed listed i→∀ o,ops[i]?=some o→∀ e ∈ o.after,Region.binds .any e=true→Listed listed e.on)→SR c (mrg f (fun i=>listed.getD i false) (S 0) ops.size) a w→wpAny P .any ops Qc fuel listed a w:=by
  intro fuel
  induction fuel with
  | zero =>
    intro listed a w hls hf hdown hs
    have hall:=unl_zero (by omega:unl listed ops.size=0)
    rw [D.done hall] at hs
    refine ⟨?_,hQ _ _ _ hq hs⟩
    rw [List.eq_nil_iff_forall_not_mem]
    intro i hi
    obtain ⟨h1,h2,_⟩:=ready_spec hi
    exact h2 (hall i h1)
  | succ fuel ih =>
    intro listed a w hls hf hdown hs
    refine ⟨fun hr=>?_,fun i hir=>?_⟩
    · rw [D.done (DF.all hls hr)] at hs
      exact hQ _ _ _ hq hs
    · obtain ⟨h1,h2,o,ho,h3⟩:=ready_spec hir
      have hdn : ∀ i,Listed listed i→i < ops.size→∀ o,ops[i]?=some o→∀ e ∈ o.after,Region.binds .any e=true→Listed listed e.on:=fun i h _=>hdown i h
      have T:Turn ops (fun i=>listed.getD i false) i:=by
        refine ⟨h1,by simpa [Listed] using h2,fun j hj=>(DF.before hdn i j h1 (fun o'' ho''=>by rw [ho] at ho'';cases ho'';exact h3) hj).1,fun k hk hl=>?_⟩
        cases hb:(bef ops k).testBit i with
        | false=>rfl
        | true=>exact absurd (DF.before hdn k i hk (hdn k hl hk) hb).1 h2
      obtain ⟨m1,m2,m3⟩:=D.at T ho
      refine Nx.sound ((D.nd i o ho).sem _ m1 m2 m3 (fun s=>s=f i (mrg f (fun i=>listed.getD i false) (S 0) ops.size)) rfl) hs ho (hdst i o ho) fun s' a' w' he hs'=>?_
      subst he
      refine ih (listed.setIfInBounds i true) a' w' (by simp [hls]) ?_ (fun j hj o'' ho'' e he hb=>?_) ?_
      · have:=unl_set h1 hls h2
        omega
      · rw [listed_set (by omega)]
        rcases (listed_set (by omega)).1 hj with rfl|hj
        · rw [ho] at ho'';cases ho''
          exact .inr (h3 e he hb)
        · exact .inr (hdown j hj o'' ho'' e he hb)
      · rw [D.next T ho (l':=fun j=>(listed.setIfInBounds i true).getD j false)]
        · exact hs'
        · simp [hls,h1]
        · intro j hj
          simp [Array.getD_eq_getD_getElem?,Array.getElem?_setIfInBounds_ne (Ne.symm hj)]
end
end Go.AVL
end
