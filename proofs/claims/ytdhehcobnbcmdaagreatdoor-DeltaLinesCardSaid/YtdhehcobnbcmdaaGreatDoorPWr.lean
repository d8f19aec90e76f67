/- A part of the proof of DeltaLines: Chk Prn Wrt. -/
import Derived.Test.YtdhehcobnbcmdaaGreatDoorPMd
import Derived.Test.YtdhehcobnbcmdaaGreatDoorPCf
import Derived.Lib.Join
set_option linter.all false
namespace Go.Proofs.YtdhehcobnbcmdaaGreatDoor
open Go.RowKit
def EPost (ok:Bool)(w:World)(e:Ending)(w':World):Prop:=(∃ (k:Int) (s:Value),e=.returned (.tuple #[.int .i64 k,s])∧(k=0↔ok=true))∧Below w.heap.size w w'
theorem e_bad {ok:Bool}{w w':World}{k:Int}{s:Value}(h:ok=false)(hk:k≠0)(hb:Below w.heap.size w w'):EPost ok w (.returned (.tuple #[.int .i64 k,s])) w':=⟨⟨k,s,rfl,by rw [h];simp [hk]⟩,hb⟩
theorem e_ok {ok:Bool}{w w':World}{s:Value}(h:ok=true)(hb:Below w.heap.size w w'):EPost ok w (.returned (.tuple #[.int .i64 0,s])) w':=⟨⟨0,s,rfl,by rw [h];simp⟩,hb⟩
theorem e_no {w w':World}{e:Ending}(h:EPost false w e w'):∃ (k:Int) (s:Value),e=.returned (.tuple #[.int .i64 k,s])∧k≠0∧(k != 0)=true∧Below w.heap.size w w':=by
  obtain ⟨⟨k,s,h1,h2⟩,h3⟩:=h
  have:k≠0:=fun h=>by simp [h] at h2
  exact ⟨k,s,h1,this,by simp [this],h3⟩
theorem e_yes {w w':World}{e:Ending}(h:EPost true w e w'):∃ s:Value,e=.returned (.tuple #[.int .i64 0,s])∧Below w.heap.size w w':=by
  obtain ⟨⟨k,s,h1,h2⟩,h3⟩:=h
  rw [h2.2 rfl] at h1
  exact ⟨s,h1,h3⟩
def BoolW (b:Bool)(w:World)(e:Ending)(w':World):Prop:=e=.returned (.bool b)∧Below w.heap.size w w'
def goodN (s:ByteArray):Bool:=isName (bs s) && !resB s
def headB (c:ConfS):Bool:=
  decide (c.title.size≤256) && okF c.fields && (c.fields.all fun f=>!resB f.name) &&
  !((!decide (c.routing=ByteArray.empty) && decide (findF c.fields c.routing<0)) || (decide (c.routing=ByteArray.empty) && c.slim))
def sumB (g:BoxS→Int):List BoxS→Int
  | []=>0
  | b::r=>g b+sumB g r
def nPorts (b:BoxS):Int:=b.ins.length+b.outs.length
def nLines (b:BoxS):Int:=b.guards.length
def nRules (b:BoxS):Int:=b.rules.length
def nRoutes (b:BoxS):Int:=b.owns.length+b.routes.length
def countsB (c:ConfS):Bool:=
  decide (c.boxes.length≤16∧sumB nPorts c.boxes≤48∧sumB nLines c.boxes≤64∧sumB nRules c.boxes≤64∧sumB nRoutes c.boxes≤64∧c.links.length≤48∧c.slices.length≤8)
def freshB:List ByteArray→List ByteArray→Bool
  | _,[]=>true
  | seen,s::r=>goodN s && !(seen.any fun q=>decide (q=s)) && freshB (seen++[s]) r
def namesFrom:List ByteArray→List BoxS→Bool
  | _,[]=>true
  | seen,b::r=>goodN b.name && !(seen.any fun q=>decide (q=b.name)) && freshB [] (b.ins++b.outs) && namesFrom (seen++[b.name]) r
def namesB (c:ConfS):Bool:=namesFrom [] c.boxes
def eachB {α : Type}(P:List α→α→Bool):List α→List α→Bool
  | _,[]=>true
  | seen,x::r=>P seen x && eachB P (seen++[x]) r
def guardB (c:ConfS)(f:Tab)(g:LineS):Bool:=(f g.port).isSome && okE c.fields g.mat
def ruleB (c:ConfS)(f:Tab)(ni:Nat)(seen:List RuleS)(r:RuleS):Bool:=
  decide (0≤r.prio∧r.prio≤65535) && !(seen.any fun s=>decide (s.prio=r.prio)) && sidesFrom f ni true [] r.frm && okE c.fields r.mat && okW c.fields r.sets && decide (r.dst.length≤4) && sidesFrom f ni false [] r.dst
def bitsR (c:ConfS):Int:=match c.fields[(findF c.fields c.routing).toNat]? with
  | some f=>f.bits
  | none=>0
def prefB (c:ConfS)(f:Tab)(ni:Nat)(seen:List PrefS)(p:PrefS):Bool:=
  !decide (c.routing=ByteArray.empty) && decide (0≤p.len∧p.len≤bitsR c∧0≤p.value∧p.value<2 ^ (bitsR c).toNat∧p.value % 2 ^ (bitsR c-p.len).toNat=0) &&
  !(seen.any fun q=>decide (q.value=p.value∧q.len=p.len)) && sideB f ni p.dst false
def boxB (c:ConfS)(f:Tab)(b:BoxS):Bool:=
  b.guards.all (guardB c f) && eachB (ruleB c f b.ins.length) [] b.rules && eachB (prefB c f b.ins.length) [] b.owns && eachB (prefB c f b.ins.length) [] b.routes
def lastFrom (f:Tab):Nat→List ByteArray→Tab
  | _,[]=>f
  | k,s::r=>lastFrom (upd f s k) (k+1) r
def portsT (b:BoxS):Tab:=lastFrom noTab 0 (b.ins++b.outs)
def deedsB (c:ConfS):Bool:=c.boxes.all fun b=>boxB c (portsT b) b
def dotB:ByteArray:=⟨#[46]⟩
def fullB (b s:ByteArray):ByteArray:=(b++dotB)++s
def fullsB (b:BoxS):List (ByteArray×Bool):=(b.ins.map fun s=>(fullB b.name s,true))++(b.outs.map fun s=>(fullB b.name s,false))
def fulls (l:List BoxS):List (ByteArray×Bool):=l.flatMap fullsB
def addT (f:Tab)(s:ByteArray)(k:Nat):Tab:=if (f s).isSome then f else upd f s k
def firstFrom (f:Tab):Nat→List (ByteArray×Bool)→Tab
  | _,[]=>f
  | k,x::r=>firstFrom (addT f x.1 k) (k+1) r
def numsT (c:ConfS):Tab:=firstFrom noTab 0 (fulls c.boxes)
def inAt (l:List (ByteArray×Bool))(k:Int):Bool:=match l[k.toNat]? with
  | some x=>x.2
  | none=>false
def sideN (f:Tab)(l:List (ByteArray×Bool))(s:ByteArray)(inn:Bool):Bool:=match f s with
  | some k=>inAt l k == inn
  | none=>false
def freeT (f:Tab)(l:List (ByteArray×Bool)):Tab:=fun s=>match f s with
  | some k=>if inAt l k then none else some k
  | none=>none
def linksFrom (f:Tab)(l:List (ByteArray×Bool)):Tab→List LinkS→Bool
  | _,[]=>true
  | free,x::r=>sideN f l x.frm false && sideN f l x.dst true && decide (1≤x.cost∧x.cost≤9999) && (free x.frm).isSome && linksFrom f l (cutT free x.frm) r
def linksB (c:ConfS):Bool:=linksFrom (numsT c) (fulls c.boxes) (freeT (numsT c) (fulls c.boxes)) c.links
def knownB (f:Tab):List ByteArray→List ByteArray→Bool
  | _,[]=>true
  | seen,s::r=>(f s).isSome && !(seen.any fun q=>decide (q=s)) && knownB f (seen++[s]) r
def sliceB (c:ConfS)(seen:List SliceS)(s:SliceS):Bool:=
  goodN s.name && !(seen.any fun q=>decide (q.name=s.name)) && knownB (numsT c) [] s.ports && okE c.fields s.whr
def slicesB (c:ConfS):Bool:=eachB (sliceB c) [] c.slices
def checkS (c:ConfS):Bool:=headB c && countsB c && namesB c && deedsB c && linksB c && slicesB c
theorem sumB_snoc (g:BoxS→Int)(l:List BoxS)(b:BoxS):sumB g (l++[b])=sumB g l+g b:=by
  induction l with
  | nil=>simp [sumB]
  | cons x r ih=>simp only [List.cons_append,sumB,ih];omega
theorem lastFrom_snoc (s:ByteArray):∀ (l:List ByteArray) (f:Tab) (k:Nat),lastFrom f k (l++[s])=upd (lastFrom f k l) s ((k+l.length:Nat):Int)
  | [],f,k=>by simp [lastFrom]
  | x::r,f,k=>by rw [List.cons_append,lastFrom,lastFrom_snoc s r,lastFrom];congr 2;simp;omega
theorem firstFrom_snoc (x:ByteArray×Bool):∀ (l:List (ByteArray×Bool)) (f:Tab) (k:Nat),firstFrom f k (l++[x])=addT (firstFrom f k l) x.1 (k+l.length)
  | [],f,k=>by simp [firstFrom]
  | y::r,f,k=>by rw [List.cons_append,firstFrom,firstFrom_snoc x r,firstFrom];congr 1;simp;omega
def joinT (l:List ByteArray)(sep:ByteArray):ByteArray:=⟨(Lib.join (l.map (·.data.toList)) sep.data.toList).toArray⟩
def setT (x:SetS):ByteArray:=(x.field++ba [32,61,32])++numT x.value
def setsT (acc:ByteArray):Nat→List SetS→ByteArray
  | _,[]=>acc
  | k,x::r=>setsT ((acc++(if k=0 then ba [32,115,101,116,32] else ba [44,32]))++setT x) (k+1) r
def rule1 (u:RuleS):ByteArray:=ba [114,117,108,101,32]++numT u.prio
def rule2 (u:RuleS):ByteArray:=if u.frm.length=0 then rule1 u else rule1 u++(ba [32,102,114,111,109,32]++joinT u.frm (ba [32]))
def rule3 (u:RuleS):ByteArray:=rule2 u++(ba [32,109,97,116,99,104,32]++nodesT u.mat)
def rule4 (u:RuleS):ByteArray:=setsT (rule3 u) 0 u.sets
def ruleT (u:RuleS):ByteArray:=if u.dst.length=0 then rule4 u++ba [32,100,114,111,112] else (rule4 u++ba [32,116,111,32])++joinT u.dst (ba [44,32])
def prefT (o:PrefS):ByteArray:=(((ba (quadL o.value)++ba [47])++numT o.len)++ba [32,116,111,32])++o.dst
def lineT (g:LineS):ByteArray:=((ba [32,32,103,117,97,114,100,32]++g.port)++(if g.permit then ba [32,112,101,114,109,105,116,32] else ba [32,100,101,110,121,32]))++nodesT g.mat
def linkT (x:LinkS):ByteArray:=if x.cost=1 then ((ba [108,105,110,107,32]++x.frm)++ba [32,45,62,32])++x.dst else (((ba [108,105,110,107,32]++x.frm)++ba [32,45,62,32])++x.dst)++(ba [32,99,111,115,116,32]++numT x.cost)
def portsTx (acc:ByteArray):List ByteArray→ByteArray
  | []=>acc
  | q::r=>portsTx (acc++(ba [32]++q)) r
def sliceT (s:SliceS):ByteArray:=(portsTx (ba [115,108,105,99,101,32]++s.name) s.ports++ba [32,119,104,101,114,101,32])++nodesT s.whr
def linesL {α : Type}(f : α→ByteArray)(l:List α):Bytes:=l.flatMap fun x=>(f x).data.toList++[10]
def boxL (b:BoxS):Bytes:=
  linesL id [ba [98,111,120,32]++b.name]++(linesL lineT b.guards++(linesL (fun u=>ba [32,32]++ruleT u) b.rules++(linesL (fun o=>ba [32,32,111,119,110,32]++prefT o) b.owns++linesL (fun o=>ba [32,32,114,111,117,116,101,32]++prefT o) b.routes)))
def Names (l:List ByteArray):Prop:=∀ s∈l,goodN s=true
structure WrR (u:RuleS):Prop where
  prio:0≤u.prio∧u.prio≤65535
  frm:Names u.frm∧u.frm.length≤48
  mat:WrN u.mat
  sets:u.sets.length≤12∧∀ x∈u.sets,goodN x.field=true∧0≤x.value∧x.value≤4294967295
  dst:Names u.dst∧u.dst.length≤4
structure WrP (o:PrefS):Prop where
  value:0≤o.value∧o.value≤4294967295
  len:0≤o.len∧o.len≤32
  dst:goodN o.dst=true
def WrG (g:LineS):Prop:=goodN g.port=true∧WrN g.mat
def Full (s:ByteArray):Prop:=∃ a b,goodN a=true∧goodN b=true∧s=fullB a b
def WrL (x:LinkS):Prop:=Full x.frm∧Full x.dst∧1≤x.cost∧x.cost≤9999
def WrS (s:SliceS):Prop:=goodN s.name=true∧(∀ q∈s.ports,Full q)∧s.ports.length≤48∧WrN s.whr
theorem goodN_le {s:ByteArray}(h:goodN s=true):1≤s.size∧s.size≤24:=by
  unfold goodN at h
  rw [Bool.and_eq_true] at h
  exact isName_le h.1
theorem full_le {s:ByteArray}(h:Full s):s.size≤49:=by
  obtain ⟨a,b,ha,hb,rfl⟩:=h
  have:=goodN_le ha
  have:=goodN_le hb
  unfold fullB
  simp only [ByteArray.size_append,show dotB.size=1 from rfl]
  omega
theorem lens_le {l:List ByteArray}(h:Names l):Lib.lens (l.map (·.data.toList))≤24*l.length:=by
  induction l with
  | nil=>exact Nat.zero_le _
  | cons x r ih =>
    have h1:=goodN_le (h x (by simp))
    have h2:=ih fun s hs=>h s (by simp [hs])
    have e:x.data.toList.length=x.size:=rfl
    unfold Lib.lens at h2 ⊢
    simp only [List.map_cons,List.sum_cons,List.length_cons]
    omega
theorem joinT_le {l:List ByteArray}(h:Names l)(sep:ByteArray):(joinT l sep).size≤(24+sep.size)*l.length:=by
  have e:(joinT l sep).size=(Lib.join (l.map (·.data.toList)) sep.data.toList).length:=by unfold joinT;rfl
  rw [e]
  cases l with
  | nil=>exact Nat.zero_le _
  | cons x r =>
    have h2:=lens_le h
    have e2:sep.data.toList.length=sep.size:=rfl
    rw [List.map_cons] at h2 ⊢
    rw [Lib.join_length,e2,List.length_map]
    rw [List.length_cons] at h2 ⊢
    have h3:sep.size*r.length≤sep.size*(r.length+1):=Nat.mul_le_mul_left _ (by omega)
    rw [Nat.add_mul]
    omega
theorem setT_le {x:SetS}(h:goodN x.field=true)(h0:0≤x.value):(setT x).size≤42:=by
  have:=goodN_le h
  have:=numT_le h0
  unfold setT
  simp only [ByteArray.size_append,ba_size,List.length_cons,List.length_nil]
  omega
theorem setsT_le:∀ (l:List SetS)(acc:ByteArray)(k:Nat),(∀ x∈l,goodN x.field=true∧0≤x.value∧x.value≤4294967295)→(setsT acc k l).size≤acc.size+47*l.length
  | [],acc,k,_=>by simp [setsT]
  | x :: r, acc, k, h => by
    have h1:=setT_le (h x (by simp)).1 (h x (by simp)).2.1
    have h2:=setsT_le r ((acc++(if k=0 then ba [32,115,101,116,32] else ba [44,32]))++setT x) (k+1) fun y hy=>h y (by simp [hy])
    have h3:(if k=0 then ba [32,115,101,116,32] else ba [44,32]:ByteArray).size≤5:=by split<;>simp [ba_size]
    unfold setsT
    simp only [ByteArray.size_append] at h2
    rw [List.length_cons]
    omega
theorem rule1_le {u:RuleS}(h:WrR u):(rule1 u).size≤20:=by
  have:=numT_le h.prio.1
  unfold rule1
  simp only [ByteArray.size_append,ba_size,List.length_cons,List.length_nil]
  omega
theorem rule2_le {u:RuleS}(h:WrR u):(rule2 u).size≤1226:=by
  have h1:=rule1_le h
  have h2:=joinT_le h.frm.1 (ba [32])
  have h3:=h.frm.2
  unfold rule2
  split
  · omega
  · simp only [ByteArray.size_append,ba_size,List.length_cons,List.length_nil] at h2 ⊢
    omega
theorem rule3_le {u:RuleS}(h:WrR u):(rule3 u).size≤5585:=by
  have h1:=rule2_le h
  have h2:=nodesT_le h.mat
  unfold rule3
  simp only [ByteArray.size_append,ba_size,List.length_cons,List.length_nil]
  omega
theorem rule4_le {u:RuleS}(h:WrR u):(rule4 u).size≤6149:=by
  have h1:=rule3_le h
  have h2:=setsT_le u.sets (rule3 u) 0 h.sets.2
  have h3:=h.sets.1
  unfold rule4
  omega
theorem ruleT_le {u:RuleS}(h:WrR u):(ruleT u).size≤6300:=by
  have h1:=rule4_le h
  have h2:=joinT_le h.dst.1 (ba [44,32])
  have h3:=h.dst.2
  unfold ruleT
  split
  · simp only [ByteArray.size_append,ba_size,List.length_cons,List.length_nil]
    omega
  · simp only [ByteArray.size_append,ba_size,List.length_cons,List.length_nil] at h2 ⊢
    omega
theorem prefT_le {o:PrefS}(h:WrP o):(prefT o).size≤60:=by
  have h1:=quadL_le (v:=o.value)
  have h2:=numT_le h.len.1
  have h3:=goodN_le h.dst
  unfold prefT
  simp only [ByteArray.size_append,ba_size,List.length_cons,List.length_nil]
  omega
theorem lineT_le {g:LineS}(h:WrG g):(lineT g).size≤4400:=by
  have h1:=goodN_le h.1
  have h2:=nodesT_le h.2
  have h3:(if g.permit then ba [32,112,101,114,109,105,116,32] else ba [32,100,101,110,121,32]:ByteArray).size≤8:=by split<;>simp [ba_size]
  unfold lineT
  simp only [ByteArray.size_append] at *
  simp only [ba_size,List.length_cons,List.length_nil]
  omega
theorem linkT_le {x:LinkS}(h:WrL x):(linkT x).size≤200:=by
  have h1:=full_le h.1
  have h2:=full_le h.2.1
  have h3:=numT_le (v:=x.cost) (by have:=h.2.2.1;omega)
  unfold linkT
  split
  all_goals (simp only [ByteArray.size_append,ba_size,List.length_cons,List.length_nil];omega)
theorem portsTx_le:∀ (l:List ByteArray)(acc:ByteArray),(∀ q∈l,Full q)→(portsTx acc l).size≤acc.size+50*l.length
  | [],acc,_=>by simp [portsTx]
  | q :: r, acc, h => by
    have h1:=full_le (h q (by simp))
    have h2:=portsTx_le r (acc++(ba [32]++q)) fun y hy=>h y (by simp [hy])
    unfold portsTx
    simp only [ByteArray.size_append,ba_size,List.length_cons,List.length_nil] at h2
    rw [List.length_cons]
    omega
theorem sliceT_le {s:SliceS}(h:WrS s):(sliceT s).size≤6800:=by
  have h1:=goodN_le h.1
  have h2:=portsTx_le s.ports (ba [115,108,105,99,101,32]++s.name) h.2.1
  have h3:=nodesT_le h.2.2.2
  have h4:=h.2.2.1
  unfold sliceT
  simp only [ByteArray.size_append,ba_size,List.length_cons,List.length_nil] at h2 ⊢
  omega
theorem pigeon:∀ (l m:List ByteArray),l.Nodup→(∀ s∈l,s∈m)→l.length≤m.length
  | [],_,_,_=>Nat.zero_le _
  | x :: r, m, hn, hs => by
    rw [List.nodup_cons] at hn
    have hx:=hs x List.mem_cons_self
    have h1:=pigeon r (m.filter fun s=>!decide (s=x)) hn.2 fun s hr=>List.mem_filter.2 ⟨hs s (List.mem_cons_of_mem _ hr),by
      have:s≠x:=fun e=>hn.1 (by rw [← e];exact hr)
      simp [this]⟩
    have h2:(m.filter fun s=>!decide (s=x)).length<m.length:=List.length_filter_lt_length_iff_exists.2 ⟨x,hx,by simp⟩
    simp only [List.length_cons]
    omega
theorem upd_some {f:Tab}{s t:ByteArray}{k:Int}(h:(upd f s k t).isSome=true):t=s∨(f t).isSome=true:=by
  unfold upd at h
  by_cases e:t=s
  · exact .inl e
  · rw [if_neg e] at h;exact .inr h
theorem last_some:∀ (l:List ByteArray)(f:Tab)(k:Nat)(s:ByteArray),(lastFrom f k l s).isSome=true→(f s).isSome=true∨s∈l
  | [],_,_,_,h=>.inl h
  | x :: r, f, k, s, h => by
    unfold lastFrom at h
    rcases last_some r _ _ _ h with h|h
    · rcases upd_some h with rfl|h
      · exact .inr List.mem_cons_self
      · exact .inl h
    · exact .inr (List.mem_cons_of_mem _ h)
theorem first_some : ∀ (l : List (ByteArray × Bool)) (f : Tab) (k : Nat) (s : ByteArray), (firstFrom f k l s).isSome = true → (f s).isSome = true ∨ s ∈ l.map (·.1)
  | [],_,_,_,h=>.inl h
  | x :: r, f, k, s, h => by
    unfold firstFrom at h
    rcases first_some r _ _ _ h with h|h
    · unfold addT at h
      split at h
      · exact .inl h
      · rcases upd_some h with rfl|h
        · exact .inr (by simp)
        · exact .inl h
    · exact .inr (by rw [List.map_cons];exact List.mem_cons_of_mem _ h)
theorem side_some {f:Tab}{n:Nat}{s:ByteArray}{inn:Bool}(h:sideB f n s inn=true):(f s).isSome=true:=by
  unfold sideB at h
  cases e:f s with
  | none=>rw [e] at h;cases h
  | some k=>rfl
theorem sideN_some {f:Tab}{l:List (ByteArray×Bool)}{s:ByteArray}{inn:Bool}(h:sideN f l s inn=true):(f s).isSome=true:=by
  unfold sideN at h
  cases e:f s with
  | none=>rw [e] at h;cases h
  | some k=>rfl
theorem not_seen {seen:List ByteArray}{s:ByteArray}(h:(seen.any fun q=>decide (q=s))=false):s ∉ seen:=fun hm=>by
  rw [List.any_eq_false] at h
  exact h s hm (by simp)
theorem sides_wr {f:Tab}{n:Nat}{inn:Bool}:∀ (l seen:List ByteArray),sidesFrom f n inn seen l=true→(∀ s∈l,(f s).isSome=true∧s ∉ seen)∧l.Nodup
  | [],_,_=>⟨fun s h=>(List.not_mem_nil h).elim,List.nodup_nil⟩
  | x :: r, seen, h => by
    unfold sidesFrom at h
    simp only [Bool.and_eq_true,Bool.not_eq_true'] at h
    obtain ⟨⟨h1,h2⟩,h3⟩:=h
    obtain ⟨a,b⟩:=sides_wr r _ h3
    refine ⟨fun s hs=>?_,List.nodup_cons.2 ⟨fun hm=>(a x hm).2 (by simp),b⟩⟩
    rcases List.mem_cons.1 hs with rfl|hs
    · exact ⟨side_some h1,not_seen h2⟩
    · exact ⟨(a s hs).1,fun hm=>(a s hs).2 (List.mem_append_left _ hm)⟩
theorem known_wr {f:Tab}:∀ (l seen:List ByteArray),knownB f seen l=true→(∀ s∈l,(f s).isSome=true∧s ∉ seen)∧l.Nodup
  | [],_,_=>⟨fun s h=>(List.not_mem_nil h).elim,List.nodup_nil⟩
  | x :: r, seen, h => by
    unfold knownB at h
    simp only [Bool.and_eq_true,Bool.not_eq_true'] at h
    obtain ⟨⟨h1,h2⟩,h3⟩:=h
    obtain ⟨a,b⟩:=known_wr r _ h3
    refine ⟨fun s hs=>?_,List.nodup_cons.2 ⟨fun hm=>(a x hm).2 (by simp),b⟩⟩
    rcases List.mem_cons.1 hs with rfl|hs
    · exact ⟨h1,not_seen h2⟩
    · exact ⟨(a s hs).1,fun hm=>(a s hs).2 (List.mem_append_left _ hm)⟩
theorem fresh_wr:∀ (l seen:List ByteArray),freshB seen l=true→Names l
  | [],_,_=>fun s h=>(List.not_mem_nil h).elim
  | x :: r, seen, h => by
    unfold freshB at h
    simp only [Bool.and_eq_true] at h
    intro s hs
    rcases List.mem_cons.1 hs with rfl|hs
    · exact h.1.1
    · exact fresh_wr r _ h.2 s hs
theorem names_wr:∀ (l:List BoxS)(seen:List ByteArray),namesFrom seen l=true→∀ b∈l,goodN b.name=true∧Names (b.ins++b.outs)
  | [],_,_=>fun s h=>(List.not_mem_nil h).elim
  | x :: r, seen, h => by
    unfold namesFrom at h
    simp only [Bool.and_eq_true] at h
    intro b hb
    rcases List.mem_cons.1 hb with rfl|hb
    · exact ⟨h.1.1.1,fresh_wr _ _ h.1.2⟩
    · exact names_wr r _ h.2 b hb
theorem each_wr {α : Type}{P:List α→α→Bool}:∀ (l seen:List α),eachB P seen l=true→∀ x∈l,∃ s,P s x=true
  | [],_,_=>fun s h=>(List.not_mem_nil h).elim
  | x :: r, seen, h => by
    unfold eachB at h
    rw [Bool.and_eq_true] at h
    intro b hb
    rcases List.mem_cons.1 hb with rfl|hb
    · exact ⟨_,h.1⟩
    · exact each_wr r _ h.2 b hb
theorem sum_ge {g:BoxS→Int}(hg:∀ b,0≤g b):∀ (l:List BoxS),0≤sumB g l∧∀ b∈l,g b≤sumB g l
  | []=>⟨Int.le_refl _,fun _ h=>(List.not_mem_nil h).elim⟩
  | x :: r => by
    obtain ⟨h1,h2⟩:=sum_ge hg r
    have:=hg x
    unfold sumB
    refine ⟨by omega,fun b hb=>?_⟩
    rcases List.mem_cons.1 hb with rfl|hb
    · omega
    · have:=h2 b hb;omega
theorem fulls_len:∀ (l:List BoxS),((fulls l).length:Int)=sumB nPorts l
  | []=>rfl
  | x :: r => by
    have:=fulls_len r
    unfold fulls at *
    rw [List.flatMap_cons,List.length_append]
    unfold sumB
    rw [← this]
    unfold nPorts fullsB
    rw [List.length_append,List.length_map,List.length_map]
    omega
theorem okW_wr {f:List FieldS}(hf:okF f=true)(hr:∀ g∈f,resB g.name=false):∀ (l seen:List SetS),okWFrom f seen l=true→∀ x∈l,goodN x.field=true∧0≤x.value∧x.value≤4294967295
  | [],_,_=>fun s h=>(List.not_mem_nil h).elim
  | x :: r, seen, h => by
    unfold okWFrom at h
    rw [Bool.and_eq_true] at h
    intro b hb
    rcases List.mem_cons.1 hb with rfl|hb
    · have h1:=h.1
      split at h1
      case h_2=>cases h1
      rename_i g hg
      simp only [Bool.and_eq_true,decide_eq_true_eq] at h1
      obtain ⟨⟨h2,_⟩,h3,h4⟩:=h1
      obtain ⟨g',hg',hn⟩:=findF_at h2
      rw [hg] at hg'
      injection hg' with hg'
      subst hg'
      have hm:=List.mem_of_getElem? hg
      obtain ⟨n1,_,_,b1,b2⟩:=(okF_good hf).2.1 g hm
      have:=topS_lt (b:=g.bits) (by omega) b2
      refine ⟨?_,h3,by omega⟩
      unfold goodN
      rw [← hn,n1,hr g hm]
      rfl
    · exact okW_wr hf hr r _ h.2 b hb
structure WrX (b:BoxS):Prop where
  nm:goodN b.name=true
  ins:Names b.ins∧b.ins.length≤48
  outs:Names b.outs∧b.outs.length≤48
  grd:b.guards.length≤64∧∀ u∈b.guards,WrG u
  rul:b.rules.length≤64∧∀ r∈b.rules,WrR r
  own:b.owns.length≤64∧∀ o∈b.owns,WrP o
  rou:b.routes.length≤64∧∀ o∈b.routes,WrP o
structure WrC (c:ConfS):Prop where
  box:c.boxes.length≤16∧∀ b∈c.boxes,WrX b
  lnk:c.links.length≤48∧∀ x∈c.links,WrL x
  slc:c.slices.length≤8∧∀ s∈c.slices,WrS s
theorem links_wr {f:Tab}{l:List (ByteArray×Bool)}:∀ (r:List LinkS) (free:Tab),linksFrom f l free r=true→∀ x∈r,(f x.frm).isSome=true∧(f x.dst).isSome=true∧1≤x.cost∧x.cost≤9999
  | [],_,_=>fun s h=>(List.not_mem_nil h).elim
  | x :: r, free, h => by
    unfold linksFrom at h
    simp only [Bool.and_eq_true,decide_eq_true_eq] at h
    obtain ⟨⟨⟨⟨h1,h2⟩,h3⟩,h4⟩,h5⟩:=h
    intro b hb
    rcases List.mem_cons.1 hb with rfl|hb
    · exact ⟨sideN_some h1,sideN_some h2,h3⟩
    · exact links_wr r _ h5 b hb
theorem pref_wr {c:ConfS}{f:Tab}{ni:Nat}{seen:List PrefS}{p:PrefS}(hf:okF c.fields=true)(hg:∀ s,(f s).isSome=true→goodN s=true)(h:prefB c f ni seen p=true):WrP p:=by
  unfold prefB at h
  simp only [Bool.and_eq_true,decide_eq_true_eq] at h
  obtain ⟨⟨⟨_,h1,h2,h3,h4,_⟩,_⟩,h5⟩:=h
  have hb:bitsR c≤32:=by
    unfold bitsR
    split
    · rename_i g hgm
      exact ((okF_good hf).2.1 g (List.mem_of_getElem? hgm)).2.2.2.2
    · decide
  refine ⟨⟨h3,?_⟩,⟨h1,by omega⟩,hg _ (side_some h5)⟩
  have:=topS_lt (b:=bitsR c) (by omega) hb
  unfold topS at this
  omega
theorem full_of {c:ConfS}(hn:∀ b∈c.boxes,goodN b.name=true∧Names (b.ins++b.outs)){s:ByteArray}(h:(numsT c s).isSome=true):Full s:=by
  rcases first_some _ _ _ _ h with h|h
  · cases h
  · rw [List.mem_map] at h
    obtain ⟨x,hx,rfl⟩:=h
    unfold fulls at hx
    rw [List.mem_flatMap] at hx
    obtain ⟨b,hb,hx⟩:=hx
    obtain ⟨n1,n2⟩:=hn b hb
    unfold fullsB at hx
    rw [List.mem_append,List.mem_map,List.mem_map] at hx
    rcases hx with ⟨q,hq,rfl⟩|⟨q,hq,rfl⟩
    · exact ⟨b.name,q,n1,n2 q (List.mem_append_left _ hq),rfl⟩
    · exact ⟨b.name,q,n1,n2 q (List.mem_append_right _ hq),rfl⟩
theorem check_wr {c:ConfS}(h:checkS c=true):WrC c:=by
  unfold checkS at h
  simp only [Bool.and_eq_true] at h
  obtain ⟨⟨⟨⟨⟨hh,hc⟩,hn⟩,hd⟩,hl⟩,hs⟩:=h
  unfold headB at hh
  simp only [Bool.and_eq_true] at hh
  obtain ⟨⟨⟨_,hf⟩,hr⟩,_⟩:=hh
  have hres:∀ g∈c.fields,resB g.name=false:=fun g hg=>by
    rw [List.all_eq_true] at hr
    simpa using hr g hg
  unfold countsB at hc
  rw [decide_eq_true_eq] at hc
  obtain ⟨c1,c2,c3,c4,c5,c6,c7⟩:=hc
  have p0:∀ b,0≤nPorts b:=fun b=>by unfold nPorts;omega
  have l0:∀ b,0≤nLines b:=fun b=>by unfold nLines;omega
  have r0:∀ b,0≤nRules b:=fun b=>by unfold nRules;omega
  have t0:∀ b,0≤nRoutes b:=fun b=>by unfold nRoutes;omega
  have hnm:=names_wr _ _ hn
  have hdb:∀ b∈c.boxes,boxB c (portsT b) b=true:=by
    unfold deedsB at hd
    rwa [List.all_eq_true] at hd
  refine ⟨⟨c1,fun b hb=>?_⟩,⟨c6,fun x hx=>?_⟩,⟨c7,fun s hm=>?_⟩⟩
  · obtain ⟨n1,n2⟩:=hnm b hb
    have hg:∀ s,(portsT b s).isSome=true→goodN s=true:=fun s h=>by
      rcases last_some _ _ _ _ h with h|h
      · cases h
      · exact n2 s h
    have hin:∀ s,(portsT b s).isSome=true→s∈b.ins++b.outs:=fun s h=>by
      rcases last_some _ _ _ _ h with h|h
      · cases h
      · exact h
    have e1:=(sum_ge p0 c.boxes).2 b hb
    have e2:=(sum_ge l0 c.boxes).2 b hb
    have e3:=(sum_ge r0 c.boxes).2 b hb
    have e4:=(sum_ge t0 c.boxes).2 b hb
    unfold nPorts at e1 c2
    unfold nLines at e2 c3
    unfold nRules at e3 c4
    unfold nRoutes at e4 c5
    have hb':=hdb b hb
    unfold boxB at hb'
    simp only [Bool.and_eq_true] at hb'
    obtain ⟨⟨⟨g1,g2⟩,g3⟩,g4⟩:=hb'
    rw [List.all_eq_true] at g1
    refine ⟨n1,⟨fun s h=>n2 s (List.mem_append_left _ h),by omega⟩,⟨fun s h=>n2 s (List.mem_append_right _ h),by omega⟩,⟨by omega,fun u hu=>?_⟩,⟨by omega,fun r hr=>?_⟩,⟨by omega,fun o ho=>?_⟩,⟨by omega,fun o ho=>?_⟩⟩
    · have:=g1 u hu
      unfold guardB at this
      rw [Bool.and_eq_true] at this
      exact ⟨hg _ this.1,okE_wr this.2⟩
    · obtain ⟨seen,h⟩:=each_wr _ _ g2 r hr
      unfold ruleB at h
      simp only [Bool.and_eq_true,decide_eq_true_eq] at h
      obtain ⟨⟨⟨⟨⟨⟨h1,_⟩,h2⟩,h3⟩,h4⟩,h5⟩,h6⟩:=h
      obtain ⟨s1,s2⟩:=sides_wr _ _ h2
      obtain ⟨s3,s4⟩:=sides_wr _ _ h6
      have hp:=pigeon r.frm (b.ins++b.outs) s2 fun s hs=>hin s (s1 s hs).1
      rw [List.length_append] at hp
      unfold okW at h4
      simp only [Bool.and_eq_true,decide_eq_true_eq] at h4
      exact ⟨h1,⟨fun s hs=>hg s (s1 s hs).1,by omega⟩,okE_wr h3,⟨h4.1.1,okW_wr hf hres _ _ h4.2⟩,⟨fun s hs=>hg s (s3 s hs).1,h5⟩⟩
    · obtain ⟨seen,h⟩:=each_wr _ _ g3 o ho
      exact pref_wr hf hg h
    · obtain ⟨seen,h⟩:=each_wr _ _ g4 o ho
      exact pref_wr hf hg h
  · have:=links_wr _ _ hl x hx
    exact ⟨full_of hnm this.1,full_of hnm this.2.1,this.2.2⟩
  · obtain ⟨seen,h⟩:=each_wr _ _ hs s hm
    unfold sliceB at h
    simp only [Bool.and_eq_true] at h
    obtain ⟨⟨⟨h1,_⟩,h2⟩,h3⟩:=h
    obtain ⟨s1,s2⟩:=known_wr _ _ h2
    have hp:=pigeon s.ports ((fulls c.boxes).map (·.1)) s2 fun q hq=>by
      rcases first_some _ _ _ _ (s1 q hq).1 with h|h
      · cases h
      · exact h
    rw [List.length_map] at hp
    have:=fulls_len c.boxes
    exact ⟨h1,fun q hq=>full_of hnm (s1 q hq).1,by omega,okE_wr h3⟩
end Go.Proofs.YtdhehcobnbcmdaaGreatDoor
