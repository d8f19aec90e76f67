/- A part of the proof of DeltaLines: Cfg FldP MapL Tree Txt. -/
import Derived.Test.YtdhehcobnbcmdaaGreatDoorPA
import Derived.Maps.OwnSet
import Derived.Lib.ItoaLen
set_option linter.all false
namespace Go.Proofs.YtdhehcobnbcmdaaGreatDoor
open Go.RowKit
theorem SlOf.addr {α : Type}{size:Nat}{R:World→Nat→List Value→α→Prop}{w:World}{B len cap:Nat}{A:Option Addr}{l:List α}(h:SlOf size R w B (.slice A len cap) l)(hl:0<l.length) :
    ∃ b off,A=some ⟨b,off,none⟩:=by
  obtain ⟨b,off,_,_,_,hv,_⟩:=SlOf.at_ h (k:=0) hl
  injection hv with hA _ _
  exact ⟨b,off,hA⟩
theorem SlOf.el {α : Type}{size:Nat}{R:World→Nat→List Value→α→Prop}{w:World}{B len cap b off:Nat}{l:List α}(h:SlOf size R w B (.slice (some ⟨b,off,none⟩) len cap) l){k:Nat}(hk:k<l.length) :
    b<B∧∃ c x,l[k]?=some x∧R w B c x∧∀ j u,c[j]?=some u→w.cell? ⟨b,off+k*size+j,none⟩=some u:=by
  obtain ⟨b',off',_,c,x,hv,hb,hx,hr,_,hj⟩:=SlOf.at_ h hk
  injection hv with hA _ _
  injection hA with hA
  injection hA with h1 h2 _
  subst h1 h2
  exact ⟨hb,c,x,hx,hr,hj⟩
theorem texts_el {w:World}{B len cap b off:Nat}{l:List ByteArray}(h:Texts w B (.slice (some ⟨b,off,none⟩) len cap) l){k:Nat}(hk:k<l.length) :
    b<B∧∃ x,l[k]?=some x∧x.size≤140737488355328∧w.cell? ⟨b,off+k,none⟩=some (.string x):=by
  obtain ⟨hb,c,x,hx,⟨hc,hs⟩,hj⟩:=SlOf.el h hk
  subst hc
  exact ⟨hb,x,hx,hs,by simpa using hj 0 _ rfl⟩
structure FieldS where
  name:ByteArray
  bits:Int
structure TestS where
  field:ByteArray
  op:Int
  form:Int
  lo:Int
  hi:Int
  len:Int
  pat:ByteArray
structure NodeS where
  kind:Int
  test:TestS
structure SetS where
  field:ByteArray
  value:Int
structure LineS where
  port:ByteArray
  permit:Bool
  mat:List NodeS
structure RuleS where
  prio:Int
  frm:List ByteArray
  mat:List NodeS
  sets:List SetS
  dst:List ByteArray
structure PrefS where
  value:Int
  len:Int
  dst:ByteArray
structure BoxS where
  name:ByteArray
  ins:List ByteArray
  outs:List ByteArray
  guards:List LineS
  rules:List RuleS
  owns:List PrefS
  routes:List PrefS
structure LinkS where
  frm:ByteArray
  dst:ByteArray
  cost:Int
structure SliceS where
  name:ByteArray
  ports:List ByteArray
  whr:List NodeS
structure ConfS where
  title:ByteArray
  fields:List FieldS
  routing:ByteArray
  slim:Bool
  boxes:List BoxS
  links:List LinkS
  slices:List SliceS
def Sm (s:ByteArray):Prop:=s.size≤140737488355328
abbrev I6 (i:Int):Value:=.int .i64 i
def testV (t:TestS):List Value:=[.string t.field,I6 t.op,I6 t.form,I6 t.lo,I6 t.hi,I6 t.len, .string t.pat]
def FieldC (_:World)(_:Nat)(c:List Value)(x:FieldS):Prop:=c=[.string x.name,I6 x.bits]∧Sm x.name
def NodeC (_:World)(_:Nat)(c:List Value)(x:NodeS):Prop:=c=I6 x.kind::testV x.test∧Sm x.test.field∧Sm x.test.pat
def SetC (_:World)(_:Nat)(c:List Value)(x:SetS):Prop:=c=[.string x.field,I6 x.value]∧Sm x.field
def LinkC (_:World)(_:Nat)(c:List Value)(x:LinkS):Prop:=c=[.string x.frm, .string x.dst,I6 x.cost]∧Sm x.frm∧Sm x.dst
def PrefC (_:World)(_:Nat)(c:List Value)(x:PrefS):Prop:=c=[I6 x.value,I6 x.len, .string x.dst]∧Sm x.dst
abbrev Fields:=SlOf 2 FieldC
abbrev Nodes:=SlOf 8 NodeC
abbrev SetsL:=SlOf 2 SetC
abbrev Prefs:=SlOf 3 PrefC
def LineC (w:World)(B:Nat)(c:List Value)(x:LineS):Prop:=∃ vm,c=[.string x.port, .bool x.permit,vm]∧Sm x.port∧Nodes w B vm x.mat
def RuleC (w:World)(B:Nat)(c:List Value)(x:RuleS):Prop:=
  ∃ vf vm vs vt,c=[I6 x.prio,vf,vm,vs,vt]∧Texts w B vf x.frm∧Nodes w B vm x.mat∧SetsL w B vs x.sets∧Texts w B vt x.dst
def SliceC (w:World)(B:Nat)(c:List Value)(x:SliceS):Prop:=∃ vp vm,c=[.string x.name,vp,vm]∧Sm x.name∧Texts w B vp x.ports∧Nodes w B vm x.whr
def BoxC (w:World)(B:Nat)(c:List Value)(x:BoxS):Prop:=
  ∃ vi vo vg vr va vb,c=[.string x.name,vi,vo,vg,vr,va,vb]∧Sm x.name∧Texts w B vi x.ins∧Texts w B vo x.outs∧SlOf 3 LineC w B vg x.guards∧SlOf 5 RuleC w B vr x.rules∧Prefs w B va x.owns∧Prefs w B vb x.routes
structure ConfC (w:World)(B:Nat)(c:ConfS)(vf vb vl vs:Value):Prop where
  f:Fields w B vf c.fields
  b:SlOf 7 BoxC w B vb c.boxes
  l:SlOf 3 LinkC w B vl c.links
  s:SlOf 3 SliceC w B vs c.slices
  ht:Sm c.title
  hr:Sm c.routing
def confV (c:ConfS)(vf vb vl vs:Value):Array Value:=#[.string c.title,vf, .string c.routing, .bool c.slim,vb,vl,vs]
section
variable {w w':World} {B B':Nat}
theorem pureSl {α : Type}{size:Nat}{P:List Value→α→Prop}{v:Value}{l:List α}(h:SlOf size (fun _ _=>P) w B v l)(hB:B≤B')(hk:∀ b o,b<B→w'.cell? ⟨b,o,none⟩=w.cell? ⟨b,o,none⟩):SlOf size (fun _ _=>P) w' B' v l:=h.keep hB hk fun _ _ h=>h
theorem LineC.keep {c:List Value}{x:LineS}(h:LineC w B c x)(hB:B≤B')(hk:∀ b o,b<B→w'.cell? ⟨b,o,none⟩=w.cell? ⟨b,o,none⟩):LineC w' B' c x:=by
  obtain ⟨v,h1,h2,h3⟩:=h
  exact ⟨v,h1,h2,pureSl h3 hB hk⟩
theorem RuleC.keep {c:List Value}{x:RuleS}(h:RuleC w B c x)(hB:B≤B')(hk:∀ b o,b<B→w'.cell? ⟨b,o,none⟩=w.cell? ⟨b,o,none⟩):RuleC w' B' c x:=by
  obtain ⟨a,b,d,e,h1,h2,h3,h4,h5⟩:=h
  exact ⟨a,b,d,e,h1,h2.keep hB hk,pureSl h3 hB hk,pureSl h4 hB hk,h5.keep hB hk⟩
theorem SliceC.keep {c:List Value}{x:SliceS}(h:SliceC w B c x)(hB:B≤B')(hk:∀ b o,b<B→w'.cell? ⟨b,o,none⟩=w.cell? ⟨b,o,none⟩):SliceC w' B' c x:=by
  obtain ⟨a,b,h1,h2,h3,h4⟩:=h
  exact ⟨a,b,h1,h2,h3.keep hB hk,pureSl h4 hB hk⟩
theorem BoxC.keep {c:List Value}{x:BoxS}(h:BoxC w B c x)(hB:B≤B')(hk:∀ b o,b<B→w'.cell? ⟨b,o,none⟩=w.cell? ⟨b,o,none⟩):BoxC w' B' c x:=by
  obtain ⟨a,b,d,e,f,g,h1,h2,h3,h4,h5,h6,h7,h8⟩:=h
  exact ⟨a,b,d,e,f,g,h1,h2,h3.keep hB hk,h4.keep hB hk,h5.keep hB hk fun _ _ h=>h.keep hB hk,h6.keep hB hk fun _ _ h=>h.keep hB hk,pureSl h7 hB hk,pureSl h8 hB hk⟩
theorem ConfC.keep {c:ConfS}{vf vb vl vs:Value}(h:ConfC w B c vf vb vl vs)(hB:B≤B')(hk:∀ b o,b<B→w'.cell? ⟨b,o,none⟩=w.cell? ⟨b,o,none⟩):ConfC w' B' c vf vb vl vs:=
  ⟨pureSl h.f hB hk,h.b.keep hB hk fun _ _ h=>h.keep hB hk,pureSl h.l hB hk,h.s.keep hB hk fun _ _ h=>h.keep hB hk,h.ht,h.hr⟩
theorem keepB (hb:Below B' w w')(hB:B≤B'):∀ b o,b<B→w'.cell? ⟨b,o,none⟩=w.cell? ⟨b,o,none⟩:=fun b o h=>(bcell hb).1 b o (by omega)
theorem Texts.below {v:Value}{l:List ByteArray}(h:Texts w B v l)(hb:Below B' w w')(hB:B≤B'):Texts w' B' v l:=h.keep hB (keepB hb hB)
theorem Nodes.below {v:Value}{l:List NodeS}(h:Nodes w B v l)(hb:Below B' w w')(hB:B≤B'):Nodes w' B' v l:=pureSl h hB (keepB hb hB)
theorem Fields.below {v:Value}{l:List FieldS}(h:Fields w B v l)(hb:Below B' w w')(hB:B≤B'):Fields w' B' v l:=pureSl h hB (keepB hb hB)
theorem ConfC.below {c:ConfS}{vf vb vl vs:Value}(h:ConfC w B c vf vb vl vs)(hb:Below B' w w')(hB:B≤B'):ConfC w' B' c vf vb vl vs:=h.keep hB (keepB hb hB)
end
theorem below_boxed {w w2:World}{o:Obj}(h:Below (w.alloc o).heap.size (w.alloc o) w2):w2.heap[w.heap.size]?=some o∧Below w.heap.size w w2:=
  ⟨(h.block _ (by simp)).trans (heap_alloc_new w o),((Below.refl _ _).alloc (Nat.le_refl _) o).trans (h.mono (by simp))⟩
theorem ba_beq (a b:ByteArray):(a.toList == b.toList)=decide (a=b):=by
  rw [Bool.eq_iff_iff,beq_iff_eq,decide_eq_true_eq,ByteArray.toList_eq,ByteArray.toList_eq]
  constructor
  · intro h;cases a;cases b;simp at h;simp [h]
  · rintro rfl;rfl
def CodePost (ok:Bool)(w:World)(e:Ending)(w':World):Prop:=(∃ k:Int,e=.returned (.int .i64 k)∧(k=0↔ok=true))∧Below w.heap.size w w'
theorem code_bad {ok:Bool}{w w':World}{k:Int}(h:ok=false)(hk:k≠0)(hb:Below w.heap.size w w'):CodePost ok w (.returned (.int .i64 k)) w':=⟨⟨k,rfl,by rw [h];simp [hk]⟩,hb⟩
theorem code_ok {ok:Bool}{w w':World}(h:ok=true)(hb:Below w.heap.size w w'):CodePost ok w (.returned (.int .i64 0)) w':=⟨⟨0,rfl,by rw [h];simp⟩,hb⟩
theorem code_no {w w':World}{e:Ending}(h:CodePost false w e w'):∃ k:Int,e=.returned (.int .i64 k)∧k≠0∧(k != 0)=true∧Below w.heap.size w w':=by
  obtain ⟨⟨k,h1,h2⟩,h3⟩:=h
  have:k≠0:=fun h=>by simp [h] at h2
  exact ⟨k,h1,this,by simp [this],h3⟩
theorem code_yes {w w':World}{e:Ending}(h:CodePost true w e w'):e=.returned (.int .i64 0)∧Below w.heap.size w w':=by
  obtain ⟨⟨k,h1,h2⟩,h3⟩:=h
  rw [h2.2 rfl] at h1
  exact ⟨h1,h3⟩
theorem cells9 {w:World}{g:Nat}{x0 x1 x2 x3 x4 x5 x6 x7 x8:Value}{t:TypeId}{fr:Nat×Nat}(h:w.heap[g]?=some (.cells #[x0,x1,x2,x3,x4,x5,x6,x7,x8] t fr)) :
    w.cell? ⟨g,0,none⟩=some x0∧w.cell? ⟨g,1,none⟩=some x1∧w.cell? ⟨g,2,none⟩=some x2∧w.cell? ⟨g,3,none⟩=some x3∧w.cell? ⟨g,4,none⟩=some x4∧w.cell? ⟨g,5,none⟩=some x5∧w.cell? ⟨g,6,none⟩=some x6∧w.cell? ⟨g,7,none⟩=some x7∧w.cell? ⟨g,8,none⟩=some x8:=by
  refine ⟨?_,?_,?_,?_,?_,?_,?_,?_,?_⟩<;>rw [cell_of_row w g _ _ t fr h]<;>rfl
theorem cells7 {w:World}{g:Nat}{x0 x1 x2 x3 x4 x5 x6:Value}{t:TypeId}{fr:Nat×Nat}(h:w.heap[g]?=some (.cells #[x0,x1,x2,x3,x4,x5,x6] t fr)) :
    w.cell? ⟨g,0,none⟩=some x0∧w.cell? ⟨g,1,none⟩=some x1∧w.cell? ⟨g,2,none⟩=some x2∧w.cell? ⟨g,3,none⟩=some x3∧w.cell? ⟨g,4,none⟩=some x4∧w.cell? ⟨g,5,none⟩=some x5∧w.cell? ⟨g,6,none⟩=some x6:=by
  refine ⟨?_,?_,?_,?_,?_,?_,?_⟩<;>rw [cell_of_row w g _ _ t fr h]<;>rfl
def anyB:ByteArray:=⟨#[97,110,121]⟩
def noneB:ByteArray:=⟨#[110,111,110,101]⟩
def findFrom (nm:ByteArray):Nat→List FieldS→Int
  | _,[]=>-1
  | k,f::r=>if f.name=nm then k else findFrom nm (k+1) r
def findF (l:List FieldS)(nm:ByteArray):Int:=findFrom nm 0 l
theorem findFrom_lt (nm:ByteArray):∀ (l:List FieldS) (k:Nat),findFrom nm k l<(k:Int)+l.length∧-1≤findFrom nm k l
  | [],k=>by unfold findFrom;simp;omega
  | f :: r, k => by
    have:=findFrom_lt nm r (k+1)
    unfold findFrom
    split
    · simp;omega
    · simp at this ⊢;omega
theorem findFrom_at (nm:ByteArray):∀ (l:List FieldS) (k:Nat),0≤findFrom nm k l→∃ f,l[(findFrom nm k l).toNat-k]?=some f∧f.name=nm∧(k:Int)≤findFrom nm k l
  | [],k,h=>by unfold findFrom at h;omega
  | f :: r, k, h => by
    unfold findFrom at h ⊢
    split
    · rename_i e
      exact ⟨f,by simp,e,by omega⟩
    · rename_i e
      rw [if_neg e] at h
      obtain ⟨g,h1,h2,h3⟩:=findFrom_at nm r (k+1) h
      refine ⟨g,?_,h2,by omega⟩
      rw [show (findFrom nm (k+1) r).toNat-k=(findFrom nm (k+1) r).toNat-(k+1)+1 by omega,List.getElem?_cons_succ]
      exact h1
theorem findF_at {l:List FieldS}{nm:ByteArray}(h:0≤findF l nm):∃ f,l[(findF l nm).toNat]?=some f∧f.name=nm:=by
  obtain ⟨f,h1,h2,_⟩:=findFrom_at nm l 0 h
  exact ⟨f,h1,h2⟩
theorem findF_lt (l:List FieldS)(nm:ByteArray):findF l nm<l.length∧-1≤findF l nm:=by
  have:=findFrom_lt nm l 0
  simpa [findF] using this
def widthF:List FieldS→Int
  | []=>0
  | f::r=>f.bits+widthF r
def okAt (all:List FieldS)(k:Nat)(sum:Int)(f:FieldS):Bool:=
  (isName (bs f.name) && !(f.name.toList == [97,110,121]) && !(f.name.toList == [110,111,110,101]) && decide (findF (all.take k) f.name<0)) && decide (1≤f.bits∧f.bits≤32∧sum+f.bits≤256)
def okFrom (all:List FieldS):Nat→Int→List FieldS→Bool
  | _,_,[]=>true
  | k,sum,f::r=>okAt all k sum f && okFrom all (k+1) (sum+f.bits) r
def okF (l:List FieldS):Bool:=decide (1≤l.length∧l.length≤12) && okFrom l 0 0 l
def GoodF (f:FieldS):Prop:=isName (bs f.name)=true∧f.name≠anyB∧f.name≠noneB∧1≤f.bits∧f.bits≤32
theorem toList_ne {a b:ByteArray}{l:List UInt8}(hb:b.data.toList=l)(h:(a.toList == l)=false):a≠b:=by
  rw [← hb,← ByteArray.toList_eq,ba_beq] at h
  simpa using h
theorem okAt_good {all:List FieldS}{k:Nat}{sum:Int}{f:FieldS}(h:okAt all k sum f=true):GoodF f∧sum+f.bits≤256:=by
  unfold okAt at h
  simp only [Bool.and_eq_true,decide_eq_true_eq,Bool.not_eq_true'] at h
  exact ⟨⟨h.1.1.1.1,toList_ne (b:=anyB) rfl h.1.1.1.2,toList_ne (b:=noneB) rfl h.1.1.2,h.2.1,h.2.2.1⟩,h.2.2.2⟩
theorem okFrom_good (all:List FieldS):∀ (l:List FieldS) (k:Nat) (sum:Int),0≤sum→sum≤256→okFrom all k sum l=true→(∀ f∈l,GoodF f)∧0≤widthF l∧sum+widthF l≤256
  | [],_,sum,h0,h1,_=>⟨by simp,by simp [widthF],by simp [widthF];omega⟩
  | f :: r, k, sum, h0, h1, h => by
    unfold okFrom at h
    rw [Bool.and_eq_true] at h
    have g:=okAt_good h.1
    have gb:=g.1.2.2.2
    obtain ⟨i1,i2,i3⟩:=okFrom_good all r (k+1) (sum+f.bits) (by omega) g.2 h.2
    refine ⟨fun x hx=>?_,by unfold widthF;omega,by unfold widthF;omega⟩
    rcases List.mem_cons.1 hx with rfl|hx
    · exact g.1
    · exact i1 x hx
theorem okF_good {l:List FieldS}(h:okF l=true):(1≤l.length∧l.length≤12)∧(∀ f∈l,GoodF f)∧widthF l≤256:=by
  unfold okF at h
  rw [Bool.and_eq_true,decide_eq_true_eq] at h
  obtain ⟨i1,_,i3⟩:=okFrom_good l l 0 0 (by omega) (by omega) h.2
  exact ⟨h.1,i1,by omega⟩
theorem widthF_take {l:List FieldS}(h:∀ f∈l,GoodF f):∀ k,0≤widthF (l.take k)∧widthF (l.take k)≤widthF l∧0≤widthF (l.drop k)∧widthF (l.drop k)≤widthF l:=by
  induction l with
  | nil=>intro k;simp [widthF]
  | cons f r ih =>
    intro k
    have i:=ih fun x hx=>h x (by simp [hx])
    have g:=(h f (by simp)).2.2.2
    cases k with
    | zero=>have:=i 0;simp [widthF] at this ⊢;omega
    | succ k=>have:=i k;simp [widthF] at this ⊢;omega
def topS (bits:Int):Int:=2 ^ bits.toNat-1
theorem topS_lt {b:Int}(h0:0≤b)(h:b≤32):0≤topS b∧topS b≤4294967295:=by
  unfold topS
  have h1:(1:Int)≤2 ^ b.toNat:=by
    have:(0:Int)<2 ^ b.toNat:=Int.pow_pos (by omega)
    omega
  have h2:(2:Nat) ^ b.toNat≤2 ^ 32:=Nat.pow_le_pow_right (by omega) (by omega)
  have h3:((2:Nat) ^ b.toNat:Int)≤2 ^ 32:=by exact_mod_cast h2
  have h4:(2:Int) ^ b.toNat≤4294967296:=by simpa using h3
  omega
def pat01x (s:ByteArray):Bool:=(bs s).all cubeU
def fitS (t:TestS)(bits:Int):Bool:=
  decide (1≤t.op∧t.op≤6∧1≤t.form∧t.form≤4) && !(decide (2<t.op) && !decide (t.form=1)) &&
  (!(decide (t.form=4) && !decide (t.lo=0)) && !(!decide (t.form=3) && !decide (t.hi=0)) && !(!decide (t.form=2) && !decide (t.len=0)) && !(!decide (t.form=4) && !t.pat.toList.isEmpty)) &&
  decide (0≤t.lo∧t.lo≤topS bits∧0≤t.hi∧t.hi≤topS bits∧0≤t.len∧t.len≤bits) &&
  !(decide (t.form=2) && (Go.bits .and .i64 t.lo (topS (bits-t.len)) != 0)) && !(decide (t.form=3) && decide (t.hi<t.lo)) &&
  !(decide (t.form=4) && !(decide ((t.pat.size:Int)=bits) && pat01x t.pat))
def okT (l:List FieldS)(t:TestS):Bool:=match l[(findF l t.field).toNat]? with
  | some f=>decide (0≤findF l t.field) && fitS t f.bits
  | none=>false
def okWFrom (l:List FieldS):List SetS→List SetS→Bool
  | _,[]=>true
  | seen,s::r=>(match l[(findF l s.field).toNat]? with
      | some f=>decide (0≤findF l s.field) && !(seen.any fun t=>decide (t.field=s.field)) && decide (0≤s.value∧s.value≤topS f.bits)
      | none=>false) && okWFrom l (seen++[s]) r
def okW (l:List FieldS)(s:List SetS):Bool:=decide (s.length≤12) && okF l && okWFrom l [] s
end Go.Proofs.YtdhehcobnbcmdaaGreatDoor
namespace Go.Proofs.YtdhehcobnbcmdaaGreatDoor
open Go.RowKit Go.Maps
theorem lawStr:Keyed Tryz.prog 9:=string_keyed Tryz.underlying9
theorem zeroInt (w:World):(zeroValue 3).run Tryz.prog w=.ok (.int .i64 0) w:=by kernel_rfl
theorem keyStr {s:ByteArray}(hs:s.size≤1000000000000000):keyOf Tryz.prog 9 (.string s)=some (.string s.data.toList):=WideMaps.keyOf_string_mk Tryz.underlying9 (by unfold maxLen;omega)
theorem str_ne {a b:ByteArray}(h:a≠b):Lit.string a.data.toList≠Lit.string b.data.toList:=fun e=>h (WideShapes.bytes_inj (by injection e))
theorem below_grow {w w':World}{b:Nat}(N:Nat)(h:w.grownBy w' (some b))(hN:N≤w.heap.size)(hb:N≤b:=by omega):Below N w w':=
  (Below.refl N w).grown h hN (fun k hk=>by cases hk;exact hb)
abbrev Tab:=ByteArray→Option Int
def upd (f:Tab)(s:ByteArray)(c:Int):Tab:=fun t=>if t=s then some c else f t
def cutT (f:Tab)(s:ByteArray):Tab:=fun t=>if t=s then none else f t
def noTab:Tab:=fun _=>none
abbrev OwnM (w:World)(b n:Nat)(D:DataW Unit):Prop:=w.ownsMap Tryz.prog 9 (plainElem Tryz.prog 3) b n D
def Tells (D:DataW Unit)(f:Tab):Prop:=∀ s:ByteArray,Maps.has D (.string s.data.toList)=(f s).isSome∧∀ c,f s=some c→∀ z,D.atKey (.string s.data.toList) z=.lit (.int .i64 c)
theorem Tells.put {D:DataW Unit}{f:Tab}(h:Tells D f)(hD:IsMap D)(s:ByteArray)(c:Int):Tells (D.put (.string s.data.toList) (.lit (.int .i64 c))) (upd f s c):=fun t=>by
  unfold upd
  by_cases e:t=s
  · subst e
    rw [if_pos rfl,Maps.has_put_same hD (show WideAt.IsKeyLit (.string _) from trivial)]
    refine ⟨rfl,fun d hd z=>?_⟩
    injection hd with hd
    rw [Maps.atKey_put_same hD (show WideAt.IsKeyLit (.string _) from trivial),hd]
  · rw [if_neg e,Maps.has_put_other (str_ne e)]
    exact ⟨(h t).1,fun d hd z=>by rw [Maps.atKey_put_other (str_ne e)];exact (h t).2 d hd z⟩
theorem Tells.del {D:DataW Unit}{f:Tab}(h:Tells D f)(s:ByteArray):Tells (D.del (.string s.data.toList)) (cutT f s):=fun t=>by
  unfold cutT
  by_cases e:t=s
  · subst e
    rw [if_pos rfl,Maps.has_del_same]
    exact ⟨rfl,fun d hd=>by cases hd⟩
  · rw [if_neg e,Maps.has_del_other (str_ne e)]
    exact ⟨(h t).1,fun d hd z=>by rw [Maps.atKey_del_other (str_ne e)];exact (h t).2 d hd z⟩
def MapIs (w:World)(b n:Nat)(f:Tab):Prop:=∃ D,OwnM w b n D∧Tells D f
theorem MapIs.new (w:World):MapIs (w.alloc (.map #[] 0)) w.heap.size 0 noTab:=⟨_,World.ownsMap_made (H:=Unit) w _ _ _,fun _=>⟨rfl,fun _ h=>by cases h⟩⟩
section
variable {w w':World} {b n:Nat} {f:Tab}
theorem MapIs.lt (h:MapIs w b n f):b<w.heap.size:=let ⟨_,h,_⟩:=h;h.lt
theorem MapIs.kept {row:Option Nat}(h:MapIs w b n f)(hg:w.grownBy w' row)(hne:some b≠row):MapIs w' b n f:=let ⟨D,h,t⟩:=h;⟨D,h.kept hg hne,t⟩
theorem MapIs.below (h:MapIs w b n f){B:Nat}(hb:Below B w w')(hB:b<B):MapIs w' b n f:=by
  obtain ⟨D,⟨es,clock,h1,h2,h3,h4⟩,t⟩:=h
  exact ⟨D,⟨es,clock,(hb.block _ hB).trans h1,h2,h3,h4⟩,t⟩
theorem MapIs.mono (h:MapIs w b n f){m:Nat}(hm:n≤m):MapIs w b m f:=let ⟨D,h,t⟩:=h;⟨D,h.mono hm,t⟩
theorem MapIs.alloc (h:MapIs w b n f)(o:Obj):MapIs (w.alloc o) b n f:=let ⟨D,h,t⟩:=h;⟨D,h.alloc o,t⟩
variable {ops:Array Oper} {rest:List Oper} {o:Oper} {a:Act} {Q:Exit→Act→World→Prop}
theorem map_look (h:MapIs w b n f)(hg:o.guard=none)(m x:Operand)(hop:o.op=Op.lookup 99 m x true)(hm:a.eval m=.map (some b))(s:ByteArray)(hx:a.eval x=.string s)(hs:s.size≤1000000000000000)
    (hK:∀ c:Int,(∀ d,f s=some d→c=d)→wpList Tryz.prog ops Q rest (a.put o.dst (.tuple #[.int .i64 c, .bool (f s).isSome])) w):wpList Tryz.prog ops Q (o::rest) a w:=by
  obtain ⟨D,h,t⟩:=h
  refine wpList_lookup_own_ok_int w hg m x 99 hop 9 3 .i64 lawStr Tryz.underlying99 Tryz.underlying3 (zeroInt _) b n D hm h _ _ hx (keyStr hs) fun c hat _=>?_
  rw [(t s).1]
  refine hK c fun d hd=>?_
  rw [(t s).2 d hd] at hat
  injection hat with hat
  injection hat with _ hat
  exact hat.symm
theorem map_put (h:MapIs w b n f)(hg:o.guard=none)(m x v:Operand)(hop:o.op=Op.mapUpdate 99 m x v)(hm:a.eval m=.map (some b))(s:ByteArray)(hx:a.eval x=.string s)(hs:s.size≤1000000000000000)(hn:n≤1000000000000000)
    (c:Int) (hv:a.eval v=.int .i64 c) (hc : -9223372036854775808≤c∧c≤9223372036854775807)
    (hK:∀ w',MapIs w' b (n+1) (upd f s c)→w.grownBy w' (some b)→wpList Tryz.prog ops Q rest (a.put o.dst undef) w'):wpList Tryz.prog ops Q (o::rest) a w:=by
  obtain ⟨D,h,t⟩:=h
  exact wpList_mapUpdate_own w hg m x v 99 hop 9 3 lawStr Tryz.underlying99 (plainElem Tryz.prog 3) b n D hm h (by unfold maxLen;omega) _ _ _ hx hv (keyStr hs) (.lit (.int .i64 c)) []
    (plainElem_int Tryz.underlying3 (WalkArith.wf_i64 hc)) fun w' h' hg'=>hK w' ⟨_,h',t.put h.isMap s c⟩ hg'
theorem map_del (h:MapIs w b n f)(hg:o.guard=none)(m x:Operand)(hop:o.op=Op.call { callee:=Callee.builtin Builtin.delete,args:=#[m,x],argTypes:=#[99,9] })(hm:a.eval m=.map (some b))(s:ByteArray)(hx:a.eval x=.string s)(hs:s.size≤1000000000000000)
    (hK:∀ w',MapIs w' b n (cutT f s)→w.grownBy w' (some b)→wpList Tryz.prog ops Q rest (a.put o.dst (.tuple #[])) w'):wpList Tryz.prog ops Q (o::rest) a w:=by
  obtain ⟨D,h,t⟩:=h
  exact wpList_delete_own w hg m x 99 9 hop 3 lawStr Tryz.underlying99 (plainElem Tryz.prog 3) b n D hm h _ _ hx (keyStr hs) fun w' h' hg'=>hK w' ⟨_,h',t.del s⟩ hg'.grown
end
def SetIs (w:World)(b n:Nat)(l:List ByteArray):Prop:=∃ g,MapIs w b n g∧∀ s,(g s).isSome=l.any fun q=>decide (q=s)
theorem SetIs.new (w:World):SetIs (w.alloc (.map #[] 0)) w.heap.size 0 []:=⟨_,MapIs.new w,fun _=>rfl⟩
section
variable {w w':World} {b n:Nat} {l:List ByteArray}
theorem SetIs.lt (h:SetIs w b n l):b<w.heap.size:=let ⟨_,h,_⟩:=h;h.lt
theorem SetIs.below (h:SetIs w b n l){B:Nat}(hb:Below B w w')(hB:b<B):SetIs w' b n l:=let ⟨g,h,t⟩:=h;⟨g,h.below hb hB,t⟩
variable {ops:Array Oper} {rest:List Oper} {o:Oper} {a:Act} {Q:Exit→Act→World→Prop}
theorem set_look (h:SetIs w b n l)(hg:o.guard=none)(m x:Operand)(hop:o.op=Op.lookup 99 m x true)(hm:a.eval m=.map (some b))(s:ByteArray)(hx:a.eval x=.string s)(hs:s.size≤1000000000000000)
    (hK:∀ c:Int,wpList Tryz.prog ops Q rest (a.put o.dst (.tuple #[.int .i64 c, .bool (l.any fun q=>decide (q=s))])) w):wpList Tryz.prog ops Q (o::rest) a w:=by
  obtain ⟨g,h,t⟩:=h
  exact map_look h hg m x hop hm s hx hs fun c _=>by rw [t s];exact hK c
theorem set_put (h:SetIs w b n l)(hg:o.guard=none)(m x v:Operand)(hop:o.op=Op.mapUpdate 99 m x v)(hm:a.eval m=.map (some b))(s:ByteArray)(hx:a.eval x=.string s)(hs:s.size≤1000000000000000)(hn:n≤1000000000000000)
    (c:Int) (hv:a.eval v=.int .i64 c) (hc : -9223372036854775808≤c∧c≤9223372036854775807)
    (hK:∀ w',SetIs w' b (n+1) (l++[s])→w.grownBy w' (some b)→wpList Tryz.prog ops Q rest (a.put o.dst undef) w'):wpList Tryz.prog ops Q (o::rest) a w:=by
  obtain ⟨g,h,t⟩:=h
  refine map_put h hg m x v hop hm s hx hs hn c hv hc fun w' h' hg'=>hK w' ⟨_,h',fun u=>?_⟩ hg'
  rw [List.any_append,← t u]
  unfold upd
  by_cases e:u=s
  · subst e;simp
  · rw [if_neg e]
    simp [show ¬ s=u from fun h=>e h.symm]
end
end Go.Proofs.YtdhehcobnbcmdaaGreatDoor
namespace Go.Proofs.YtdhehcobnbcmdaaGreatDoor
open Go.RowKit
inductive Tree where
  | leaf (b:Bool)
  | test (t:TestS)
  | not (x:Tree)
  | and (l r:Tree)
  | or (l r:Tree)
def zT (t:TestS):Bool:=decide (t.field=ByteArray.empty∧t.op=0∧t.form=0∧t.lo=0∧t.hi=0∧t.len=0∧t.pat=ByteArray.empty)
def stepT (p : List Tree) (n : NodeS) : Option (List Tree) :=
  if n.kind≠3∧zT n.test=false then none
  else if n.kind=1 then some (.leaf true::p)
  else if n.kind=2 then some (.leaf false::p)
  else if n.kind=3 then some (.test n.test::p)
  else if n.kind=4 then match p with
    | x::r=>some (.not x::r)
    | []=>none
  else if n.kind=5 then match p with
    | b::a::r=>some (.and a b::r)
    | _=>none
  else if n.kind=6 then match p with
    | b::a::r=>some (.or a b::r)
    | _=>none
  else none
def pileT : List Tree → List NodeS → Option (List Tree)
  | p,[]=>some p
  | p, n :: r => match stepT p n with
    | some q=>pileT q r
    | none=>none
def oneT:Option (List Tree)→Option Tree
  | some [t]=>some t
  | _=>none
def buildS (l:List NodeS):Option Tree:=oneT (pileT [] l)
def Tree.isOr:Tree→Bool
  | .or _ _=>true
  | _=>false
def Tree.joined:Tree→Bool
  | .and _ _=>true
  | .or _ _=>true
  | _=>false
def Tree.nest:Tree→Nat
  | .leaf _=>0
  | .test _=>0
  | .not x=>x.nest+(if x.joined then 2 else 1)
  | .and l r=>max (l.nest+l.isOr.toNat) (r.nest+r.joined.toNat)
  | .or l r=>max l.nest (r.nest+r.isOr.toNat)
def Tree.sz:Tree→Nat
  | .leaf _=>1
  | .test _=>1
  | .not x=>x.sz+1
  | .and l r=>l.sz+r.sz+1
  | .or l r=>l.sz+r.sz+1
def pileSz:List Tree→Nat
  | []=>0
  | t::r=>t.sz+pileSz r
theorem stepT_sz {p q:List Tree}{n:NodeS}(h:stepT p n=some q):pileSz q=pileSz p+1∧q.length≤p.length+1:=by
  unfold stepT at h
  repeat' split at h
  all_goals first
    | (cases h;done)
    | (injection h with h;subst h;simp only [pileSz,Tree.sz,List.length_cons];omega)
theorem pileT_sz:∀ {l:List NodeS}{p q:List Tree},pileT p l=some q→pileSz q=pileSz p+l.length
  | [],p,q,h=>by unfold pileT at h;injection h with h;subst h;simp
  | n :: r, p, q, h => by
    unfold pileT at h
    split at h
    · rename_i e
      have:=stepT_sz e
      have:=pileT_sz h
      simp only [List.length_cons]
      omega
    · cases h
theorem buildS_sz {l:List NodeS}{t:Tree}(h:buildS l=some t):t.sz=l.length:=by
  unfold buildS oneT at h
  split at h
  · rename_i u e
    injection h with h
    subst h
    have:=pileT_sz e
    simpa [pileSz] using this
  · cases h
theorem Tree.nest_sz:∀ t:Tree,t.nest+2≤2*t.sz
  | .leaf _=>by simp [nest,sz]
  | .test _=>by simp [nest,sz]
  | .not x=>by have:=x.nest_sz;simp only [nest,sz];split<;>omega
  | .and l r => by
    have:=l.nest_sz
    have:=r.nest_sz
    have h1:=Bool.toNat_le l.isOr
    have h2:=Bool.toNat_le r.joined
    simp only [nest,sz]
    omega
  | .or l r => by
    have:=l.nest_sz
    have:=r.nest_sz
    have h2:=Bool.toNat_le r.isOr
    simp only [nest,sz]
    omega
def Tree.All (P:TestS→Prop):Tree→Prop
  | .leaf _=>True
  | .test t=>P t
  | .not x=>x.All P
  | .and l r=>l.All P∧r.All P
  | .or l r=>l.All P∧r.All P
theorem stepT_all {P:TestS→Prop}{p q:List Tree}{n:NodeS}(h:stepT p n=some q)(hp:∀ t∈p,t.All P)(hn:n.kind=3→P n.test):∀ t∈q,t.All P:=by
  unfold stepT at h
  repeat' split at h
  all_goals first
    | (cases h;done)
    | (injection h with h; subst h; intro t ht; simp only [List.mem_cons] at ht hp; rcases ht with rfl | ht
       · first|(simp [Tree.All];done)|exact hn (by assumption)|(simp only [Tree.All];first|exact hp _ (by simp)|exact ⟨hp _ (by simp),hp _ (by simp)⟩)
       · exact hp _ (by simp [ht]))
theorem pileT_all {P:TestS→Prop}:∀ {l:List NodeS} {p q:List Tree},pileT p l=some q→(∀ t∈p,t.All P)→(∀ n∈l,n.kind=3→P n.test)→∀ t∈q,t.All P
  | [],p,q,h,hp,_=>by unfold pileT at h;injection h with h;subst h;exact hp
  | n :: r, p, q, h, hp, hl => by
    unfold pileT at h
    split at h
    · rename_i e
      exact pileT_all h (stepT_all e hp (hl n (by simp))) fun m hm=>hl m (by simp [hm])
    · cases h
theorem buildS_all {P:TestS→Prop}{l:List NodeS}{t:Tree}(h:buildS l=some t)(hl:∀ n∈l,n.kind=3→P n.test):t.All P:=by
  unfold buildS oneT at h
  split at h
  · rename_i u e
    injection h with h
    subst h
    exact pileT_all e (by simp) hl _ (by simp)
  · cases h
def ba (l:Bytes):ByteArray:=⟨l.toArray⟩
def itoaB (n:Int):ByteArray:=⟨(Lib.itoa n).toArray⟩
def quadL (v:Int):Bytes:=Lib.itoa (v / 16777216 % 256)++[46]++Lib.itoa (v / 65536 % 256)++[46]++Lib.itoa (v / 256 % 256)++[46]++Lib.itoa (v % 256)
def numT (v:Int):ByteArray:=if v<65536 then itoaB v else ba (quadL v)
def opT (op:Int):ByteArray:=
  if op=1 then ba [61] else if op=2 then ba [33,61] else if op=3 then ba [60] else if op=4 then ba [60,61] else if op=5 then ba [62] else if op=6 then ba [62,61] else ba []
def headT (t:TestS):ByteArray:=t.field++((ba [32]++opT t.op)++ba [32])
def testT (t:TestS):ByteArray:=
  if t.form=2 then ((headT t++ba (quadL t.lo))++ba [47])++numT t.len
  else if t.form=3 then ((headT t++numT t.lo)++ba [46,46])++numT t.hi
  else if t.form=4 then (headT t++ba [37])++t.pat
  else headT t++numT t.lo
def brT (s:ByteArray)(b:Bool):ByteArray:=if b then (ba [40]++s)++ba [41] else s
def Tree.text:Tree→ByteArray
  | .leaf b=>if b then ba [97,110,121] else ba [110,111,110,101]
  | .test t=>testT t
  | .not x=>ba [33]++brT x.text x.joined
  | .and l r=>(brT l.text l.isOr++ba [32,38,32])++brT r.text r.joined
  | .or l r=>(l.text++ba [32,124,32])++brT r.text r.isOr
def nodesT (l:List NodeS):ByteArray:=match buildS l with
  | some t=>t.text
  | none=>ba []
theorem ba_size (l:Bytes):(ba l).size=l.length:=rfl
theorem nDigits_le:∀ (k u:Nat),u<10 ^ (k+1)→Lib.nDigits u≤k+1
  | 0,u,h=>by rw [Lib.nDigits_small (by simpa using h)];exact Nat.le_refl _
  | k + 1, u, h => by
    by_cases h1:u<10
    · rw [Lib.nDigits_small h1];omega
    · rw [Lib.nDigits_big h1]
      have:=nDigits_le k (u / 10) (by rw [Nat.pow_succ] at h;omega)
      omega
theorem itoa_le {n:Int}(h0:0≤n)(k:Nat)(h:n.toNat<10 ^ (k+1)):(Lib.itoa n).length≤k+1:=by
  unfold Lib.itoa
  rw [if_neg (by omega),Lib.decDigits_length]
  exact nDigits_le k _ h
theorem quadL_le {v:Int}:(quadL v).length≤15:=by
  have h1:=itoa_le (n:=v / 16777216 % 256) (by omega) 2 (by omega)
  have h2:=itoa_le (n:=v / 65536 % 256) (by omega) 2 (by omega)
  have h3:=itoa_le (n:=v / 256 % 256) (by omega) 2 (by omega)
  have h4:=itoa_le (n:=v % 256) (by omega) 2 (by omega)
  unfold quadL
  simp only [List.length_append,List.length_cons,List.length_nil]
  omega
theorem numT_le {v:Int}(h0:0≤v):(numT v).size≤15:=by
  unfold numT
  split
  · have:=itoa_le h0 4 (by omega)
    show (Lib.itoa v).length≤15
    omega
  · exact quadL_le
theorem opT_le (op:Int):(opT op).size≤2:=by
  unfold opT
  repeat' split
  all_goals simp [ba_size]
structure WrT (t:TestS):Prop where
  nm:isName (bs t.field)=true
  nany:t.field≠anyB
  nnone:t.field≠noneB
  op:1≤t.op∧t.op≤6
  form:1≤t.form∧t.form≤4
  two:t.op≤2∨t.form=1
  lo:(0≤t.lo∧t.lo≤4294967295)∧(t.form=4→t.lo=0)
  hi:(0≤t.hi∧t.hi≤4294967295)∧(t.form≠3→t.hi=0)
  len:(0≤t.len∧t.len≤32)∧(t.form≠2→t.len=0)
  pat:t.form≠4→t.pat.size=0
  pat4:t.form=4→(1≤t.pat.size∧t.pat.size≤32)∧pat01x t.pat=true
theorem isName_le {s:ByteArray}(h:isName (bs s)=true):1≤s.size∧s.size≤24:=by
  constructor
  · refine Nat.pos_of_ne_zero fun h0=>?_
    rw [isName_out s (Or.inl (by omega))] at h
    cases h
  · refine Nat.le_of_not_lt fun h0=>?_
    rw [isName_out s (Or.inr (by omega))] at h
    cases h
theorem headT_le {t:TestS}(h:WrT t):(headT t).size≤28:=by
  have:=isName_le h.nm
  have:=opT_le t.op
  unfold headT
  simp only [ByteArray.size_append,ba_size,List.length_cons,List.length_nil]
  omega
theorem testT_le {t:TestS}(h:WrT t):(testT t).size≤61:=by
  have h1:=headT_le h
  have h2:=numT_le h.lo.1.1
  have h3:=numT_le h.hi.1.1
  have h4:=numT_le h.len.1.1
  have h5:=quadL_le (v:=t.lo)
  have h6:t.pat.size≤32:=by
    by_cases hf:t.form=4
    · exact (h.pat4 hf).1.2
    · rw [h.pat hf];omega
  unfold testT
  repeat' split
  all_goals (simp only [ByteArray.size_append,ba_size,List.length_cons,List.length_nil];omega)
theorem brT_le (s:ByteArray)(b:Bool):(brT s b).size≤s.size+2:=by
  unfold brT
  split
  · simp only [ByteArray.size_append,ba_size,List.length_cons,List.length_nil];omega
  · omega
theorem Tree.text_le:∀ {t:Tree},t.All WrT→t.text.size≤68*t.sz
  | .leaf b,_=>by unfold text sz;split<;>simp [ba_size]
  | .test t,h=>by have:=testT_le (t:=t) h;unfold text sz;omega
  | .not x, h => by
    have:=text_le (t:=x) h
    have:=brT_le x.text x.joined
    unfold text sz
    simp only [ByteArray.size_append,ba_size,List.length_cons,List.length_nil]
    omega
  | .and l r, h => by
    have:=text_le h.1
    have:=text_le h.2
    have:=brT_le l.text l.isOr
    have:=brT_le r.text r.joined
    unfold text sz
    simp only [ByteArray.size_append,ba_size,List.length_cons,List.length_nil]
    omega
  | .or l r, h => by
    have:=text_le h.1
    have:=text_le h.2
    have:=brT_le r.text r.isOr
    unfold text sz
    simp only [ByteArray.size_append,ba_size,List.length_cons,List.length_nil]
    omega
def WrN (l:List NodeS):Prop:=l.length≤64∧∃ t,buildS l=some t∧t.nest≤32∧∀ n∈l,n.kind=3→WrT n.test
theorem nodesT_le {l:List NodeS}(h:WrN l):(nodesT l).size≤4352:=by
  obtain ⟨h1,t,h2,_,h3⟩:=h
  have:=Tree.text_le (buildS_all h2 h3)
  have e:=buildS_sz h2
  unfold nodesT
  rw [h2]
  show t.text.size≤4352
  omega
def okE (f:List FieldS)(l:List NodeS):Bool:=match buildS l with
  | some t=>okF f && decide (l.length≤64) && decide (t.nest≤32) && l.all fun n=>!decide (n.kind=3) || okT f n.test
  | none=>false
theorem okT_wr {f:List FieldS}{t:TestS}(hf:okF f=true)(h:okT f t=true):WrT t:=by
  unfold okT at h
  split at h
  case h_2=>cases h
  rename_i g hg
  rw [Bool.and_eq_true,decide_eq_true_eq] at h
  obtain ⟨h0,h⟩:=h
  obtain ⟨g',hg',hn⟩:=findF_at h0
  rw [hg] at hg'
  injection hg' with hg'
  subst hg'
  have hG:=(okF_good hf).2.1 g (List.mem_of_getElem? hg)
  obtain ⟨n1,n2,n3,b1,b2⟩:=hG
  rw [hn] at n1 n2 n3
  have ht:=topS_lt (b:=g.bits) (by omega) b2
  unfold fitS at h
  simp only [Bool.and_eq_true,Bool.not_eq_true',Bool.and_eq_false_iff,decide_eq_true_eq,decide_eq_false_iff_not,Bool.not_eq_false'] at h
  obtain ⟨⟨⟨⟨⟨⟨a1,a2⟩,⟨⟨⟨a3,a4⟩,a5⟩,a6⟩⟩,a7⟩,a8⟩,a9⟩,a10⟩:=h
  refine ⟨n1,n2,n3,by omega,by omega,by omega,⟨by omega,fun hf=>by omega⟩,⟨by omega,fun hf=>by omega⟩,⟨by omega,fun hf=>by omega⟩,fun hf=>?_,fun hf=>?_⟩
  · rcases a6 with a6|a6
    · exact absurd a6 hf
    · rw [ByteArray.toList_eq,List.isEmpty_iff] at a6
      exact List.length_eq_zero_iff.2 a6
  · rcases a10 with a10|a10
    · exact absurd hf a10
    · exact ⟨by omega,a10.2⟩
theorem okE_wr {f:List FieldS}{l:List NodeS}(h:okE f l=true):WrN l:=by
  unfold okE at h
  split at h
  case h_2=>cases h
  rename_i t ht
  simp only [Bool.and_eq_true,decide_eq_true_eq,List.all_eq_true,Bool.or_eq_true,Bool.not_eq_true',decide_eq_false_iff_not] at h
  obtain ⟨⟨⟨h1,h2⟩,h3⟩,h4⟩:=h
  exact ⟨h2,t,ht,h3,fun n hn hk=>okT_wr h1 ((h4 n hn).resolve_left (by omega))⟩
end Go.Proofs.YtdhehcobnbcmdaaGreatDoor
