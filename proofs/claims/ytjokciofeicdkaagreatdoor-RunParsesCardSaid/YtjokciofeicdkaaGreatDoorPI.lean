/- A part of the proof of RunParses: ParS ParL ParM. -/
import Derived.Test.YtjokciofeicdkaaGreatDoorPF
set_option maxHeartbeats 16000000
set_option maxRecDepth 100000
set_option linter.all false
namespace Go.Proofs.YtjokciofeicdkaaGreatDoor
open Go.RowKit
structure Nd where
 kind:Int
 field:ByteArray
 op:Int
 form:Int
 lo:Int
 hi:Int
 len:Int
 pat:ByteArray
abbrev Nd.cells (x:Nd):List Value:=[.int .i64 x.kind,.string x.field,.int .i64 x.op,.int .i64 x.form,.int .i64 x.lo,.int .i64 x.hi,.int .i64 x.len,.string x.pat]
abbrev Nd.of (k:Int):Nd:=⟨k,⟨#[]⟩,0,0,0,0,0,⟨#[]⟩⟩
def flatN (l:List Nd):List Value:=(l.map Nd.cells).flatten
def sgn (l:List Tk)(i:Nat)(s:ByteArray):Bool:=match l[i]? with
 | none=>false
 | some t=>t.kind == 7 && decide (t.text=s)
abbrev sNot:ByteArray:=⟨#[33]⟩
abbrev sOpen:ByteArray:=⟨#[40]⟩
abbrev sClose:ByteArray:=⟨#[41]⟩
abbrev sAnd:ByteArray:=⟨#[38]⟩
abbrev sOr:ByteArray:=⟨#[124]⟩
abbrev sSlash:ByteArray:=⟨#[47]⟩
abbrev sDots:ByteArray:=⟨#[46,46]⟩
abbrev tAny:ByteArray:=⟨#[97,110,121]⟩
abbrev tNone:ByteArray:=⟨#[110,111,110,101]⟩
def kindIs (l:List Tk)(i:Nat)(k:Int):Bool:=match l[i]? with
 | none=>false
 | some t=>t.kind == k
def textAt (l:List Tk)(i:Nat):ByteArray:=match l[i]? with
 | none=>⟨#[]⟩
 | some t=>t.text
def opS (l:List Tk)(i:Nat):Int:=
 if sgn l i ⟨#[61]⟩=true then 1 else if sgn l i ⟨#[33,61]⟩=true then 2 else if sgn l i ⟨#[60]⟩=true then 3
 else if sgn l i ⟨#[60,61]⟩=true then 4 else if sgn l i ⟨#[62]⟩=true then 5 else if sgn l i ⟨#[62,61]⟩=true then 6 else 0
def wordAt (l:List Tk)(i:Nat):Bool:=kindIs l i 2 && isName (bs (textAt l i))
structure Pl where
 at_:Nat
 opn:List Nat
 out:List Nd
 made:Nat
 e:Int
def Pl.fail (p:Pl)(e:Int)(i:Nat):Pl:=if p.e=0 then { p with e:=e,at_:=i } else p
def Pl.make1 (p:Pl):Pl:=if 64≤p.made then { p.fail 51 p.at_ with made:=p.made+1 } else { p with made:=p.made+1 }
def Pl.put (p:Pl)(x:Nd):Pl:={ p with out:=p.out++[x] }
def isOpen (c:Nat):Bool:=c == 40 || c == 33
def cntO (l:List Nat):Nat:=l.countP isOpen
def Pl.deep (p:Pl):Pl:=if 32≤cntO p.opn then p.fail 53 p.at_ else p
def ndOf (c:Nat):List Nd:=if c=33 then [Nd.of 4] else if c=38 then [Nd.of 5] else if c=124 then [Nd.of 6] else []
def popW (f:Nat→Bool):List Nat→List Nd→List Nat×List Nd
 | [],out=>([],out)
 | c::r,out=>if f c=true then popW f r (out++ndOf c) else (c::r,out)
def Pl.pops (p:Pl)(f:Nat→Bool):Pl:={ p with opn:=(popW f p.opn p.out).1,out:=(popW f p.opn p.out).2 }
def Pl.done (p:Pl):Pl:=p.pops (fun c=>c == 33)
def Pl.val (p:Pl)(l:List Tk):Int×Pl:=
 if p.e≠0 then (0,p) else if kindIs l p.at_ 4=false then (0,p.fail 50 p.at_)
 else if (valOf (textAt l p.at_) (numS (textAt l p.at_))).2≠0 then (0,p.fail 50 p.at_)
 else ((valOf (textAt l p.at_) (numS (textAt l p.at_))).1,{ p with at_:=p.at_+1 })
def patOK (s:ByteArray):Bool:=isPatR (bs s)
def Pl.test (p:Pl)(l:List Tk):Pl:=
 let p1:Pl:={ p with at_:=p.at_+1 }
 let op:=opS l p1.at_
 if op=0 then p1.fail 50 p1.at_ else
 let p2:Pl:={ p1 with at_:=p1.at_+1 }
 if op≤2∧kindIs l p2.at_ 5=true then
  (if patOK (textAt l p2.at_)=false then p2.fail 50 p2.at_
   else Pl.put { p2 with at_:=p2.at_+1 } ⟨3,textAt l p.at_,op,4,0,0,0,(textAt l p2.at_).extract 1 (textAt l p2.at_).size⟩)
 else
  let v:=p2.val l
  if v.2.e=0∧op≤2∧sgn l v.2.at_ sSlash=true then
   let u:=Pl.val { v.2 with at_:=v.2.at_+1 } l
   u.2.put ⟨3,textAt l p.at_,op,2,v.1,0,u.1,⟨#[]⟩⟩
  else if v.2.e=0∧op≤2∧sgn l v.2.at_ sDots=true then
   let u:=Pl.val { v.2 with at_:=v.2.at_+1 } l
   u.2.put ⟨3,textAt l p.at_,op,3,v.1,u.1,0,⟨#[]⟩⟩
  else v.2.put ⟨3,textAt l p.at_,op,1,v.1,0,0,⟨#[]⟩⟩
def Pl.step (p:Pl):Pl:=if p.e=0 then { p with at_:=p.at_+1 } else p
def Pl.plain (p:Pl)(k:Int):Pl:=if p.make1.e=0 then Pl.step (p.make1.put (Nd.of k)) else p.make1
def Pl.push (p:Pl)(c:Nat):Pl:={ p with opn:=c::p.opn }
def Pl.operand (p:Pl)(l:List Tk):Bool×Pl:=
 if sgn l p.at_ sNot=true then (false,(p.deep.make1.push 33).step)
 else if sgn l p.at_ sOpen=true then (false,(p.deep.push 40).step)
 else if wordAt l p.at_=true then
  (if textAt l p.at_=tAny then (true,p.plain 1) else if textAt l p.at_=tNone then (true,p.plain 2)
   else (true,if p.make1.e=0 then p.make1.test l else p.make1))
 else (false,(p.fail 50 p.at_).step)
def Pl.closing (p:Pl)(l:List Tk):Bool×Pl:=
 if p.opn.contains 40=false then (false,p)
 else if sgn l p.at_ sClose=false then (true,p.fail 50 p.at_)
 else (true,Pl.done { p.pops (fun c=>c != 40) with opn:=(p.pops (fun c=>c != 40)).opn.tail,at_:=p.at_+1 })
def Pl.chain (p:Pl)(l:List Tk):Int×Pl:=
 if sgn l p.at_ sAnd=true then (1,((p.make1.pops (fun c=>c == 38)).push 38).step)
 else if sgn l p.at_ sOr=true then (1,((p.make1.pops (fun c=>c == 38 || c == 124)).push 124).step)
 else if (p.closing l).1=true then (0,(p.closing l).2)
 else (-1,(p.closing l).2.pops (fun _=>true))
abbrev ReadR:=Option (List Nd)×Nat×Int
def rdL (l:List Tk):Nat→Bool→Pl→ReadR
 | 0,_,p=>(none,p.at_,p.e)
 | f+1,want,p=>
   if p.e≠0 then (none,p.at_,p.e)
   else if want=true then
    (if (p.operand l).1=true∧(p.operand l).2.e=0 then rdL l f false (p.operand l).2.done else rdL l f true (p.operand l).2)
   else if (p.chain l).1<0 then (some (p.chain l).2.out,(p.chain l).2.at_,0)
   else rdL l f (decide ((p.chain l).1=1)) (p.chain l).2
def readR (l:List Tk)(i:Nat):ReadR:=rdL l (l.length+1) true ⟨i,[],[],0,0⟩
structure Ds where
 at_:Nat
 out:List Nd
 made:Nat
 opn:Nat
 code:Int
inductive Md where|fac|and|andT|or|orT
def Ds.fail (d:Ds)(c:Int):Bool×Ds:=(false,{ d with code:=c })
def Ds.put (d:Ds)(x:Nd):Ds:={ d with out:=d.out++[x] }
def Ds.num (d:Ds)(l:List Tk):Option (Int×Ds):=
 if kindIs l d.at_ 4=false then none
 else if (valOf (textAt l d.at_) (numS (textAt l d.at_))).2≠0 then none
 else some ((valOf (textAt l d.at_) (numS (textAt l d.at_))).1,{ d with at_:=d.at_+1 })
def Ds.test (d:Ds)(l:List Tk)(name:ByteArray):Bool×Ds:=
 if opS l d.at_=0 then d.fail 50 else
 let op:=opS l d.at_
 let d2:Ds:={ d with at_:=d.at_+1 }
 if op≤2∧kindIs l d2.at_ 5=true∧patOK (textAt l d2.at_)=true then
  (true,Ds.put { d2 with at_:=d2.at_+1 } ⟨3,name,op,4,0,0,0,(textAt l d2.at_).extract 1 (textAt l d2.at_).size⟩)
 else match d2.num l with
  | none=>d2.fail 50
  | some v=>
    if op≤2∧sgn l v.2.at_ sSlash=true then
     (match Ds.num { v.2 with at_:=v.2.at_+1 } l with
      | none=>Ds.fail { v.2 with at_:=v.2.at_+1 } 50
      | some u=>(true,u.2.put ⟨3,name,op,2,v.1,0,u.1,⟨#[]⟩⟩))
    else if op≤2∧sgn l v.2.at_ sDots=true then
     (match Ds.num { v.2 with at_:=v.2.at_+1 } l with
      | none=>Ds.fail { v.2 with at_:=v.2.at_+1 } 50
      | some u=>(true,u.2.put ⟨3,name,op,3,v.1,u.1,0,⟨#[]⟩⟩))
    else (true,v.2.put ⟨3,name,op,1,v.1,0,0,⟨#[]⟩⟩)
def dsc (l:List Tk):Nat→Md→Ds→Bool×Ds
 | 0,_,d=>(false,d)
 | f+1,.fac,d=>
   if sgn l d.at_ sNot=true then
    (if 32≤d.opn then d.fail 53 else if 64≤d.made then d.fail 51 else
     let r:=dsc l f .fac { d with at_:=d.at_+1,made:=d.made+1,opn:=d.opn+1 }
     if r.1=true then (true,Ds.put { r.2 with opn:=r.2.opn-1 } (Nd.of 4)) else r)
   else if sgn l d.at_ sOpen=true then
    (if 32≤d.opn then d.fail 53 else
     let r:=dsc l f .or { d with at_:=d.at_+1,opn:=d.opn+1 }
     if r.1=true then (if sgn l r.2.at_ sClose=false then r.2.fail 50 else (true,{ r.2 with at_:=r.2.at_+1,opn:=r.2.opn-1 })) else r)
   else if wordAt l d.at_=false then d.fail 50
   else if 64≤d.made then d.fail 51
   else if textAt l d.at_=tAny then (true,Ds.put { d with at_:=d.at_+1,made:=d.made+1 } (Nd.of 1))
   else if textAt l d.at_=tNone then (true,Ds.put { d with at_:=d.at_+1,made:=d.made+1 } (Nd.of 2))
   else Ds.test { d with at_:=d.at_+1,made:=d.made+1 } l (textAt l d.at_)
 | f+1,.and,d=>if (dsc l f .fac d).1=true then dsc l f .andT (dsc l f .fac d).2 else dsc l f .fac d
 | f+1,.andT,d=>
   if sgn l d.at_ sAnd=true then
    (if 64≤d.made then d.fail 51 else
     let r:=dsc l f .fac { d with at_:=d.at_+1,made:=d.made+1 }
     if r.1=true then dsc l f .andT (r.2.put (Nd.of 5)) else r)
   else (true,d)
 | f+1,.or,d=>if (dsc l f .and d).1=true then dsc l f .orT (dsc l f .and d).2 else dsc l f .and d
 | f+1,.orT,d=>
   if sgn l d.at_ sOr=true then
    (if 64≤d.made then d.fail 51 else
     let r:=dsc l f .and { d with at_:=d.at_+1,made:=d.made+1 }
     if r.1=true then dsc l f .orT (r.2.put (Nd.of 6)) else r)
   else (true,d)
def dscFuel (l:List Tk):Nat:=5*l.length+10
def readD (l:List Tk)(i:Nat):ReadR:=
 let r:=dsc l (dscFuel l) .or ⟨i,[],0,0,0⟩
 if r.1=true then (some r.2.out,r.2.at_,0) else (none,r.2.at_,r.2.code)
def Leads (l:List Tk)(p:Pl)(w:Bool)(q:Pl)(w':Bool):Prop:=∀ f,l.length<p.at_+f→∃ f',l.length<q.at_+f'∧rdL l f w p=rdL l f' w' q
def Ends (l:List Tk)(p:Pl)(w:Bool)(r:ReadR):Prop:=∀ f,l.length<p.at_+f→rdL l f w p=r
theorem Leads.refl (l:List Tk)(p:Pl)(w:Bool):Leads l p w p w:=fun f h=>⟨f,h,rfl⟩
theorem Leads.trans {l:List Tk}{p q r:Pl}{a b c:Bool}(h:Leads l p a q b)(k:Leads l q b r c):Leads l p a r c:=fun f hf=>by
 obtain ⟨f1,h1,e1⟩:=h f hf;obtain ⟨f2,h2,e2⟩:=k f1 h1;exact ⟨f2,h2,e1.trans e2⟩
theorem Leads.ends {l:List Tk}{p q:Pl}{a b:Bool}{r:ReadR}(h:Leads l p a q b)(k:Ends l q b r):Ends l p a r:=fun f hf=>by
 obtain ⟨f1,h1,e1⟩:=h f hf;exact e1.trans (k f1 h1)
theorem rdL_bad (l:List Tk)(f:Nat)(w:Bool)(p:Pl)(h:p.e≠0):rdL l f w p=(none,p.at_,p.e):=by
 cases f with
 | zero=>rfl
 | succ f=>unfold rdL;rw [if_pos h]
theorem go_in {l:List Tk}{p q:Pl}(hp:p.e=0)(hl:p.at_≤l.length)(h:p.operand l=(false,q))(hq:p.at_<q.at_):Leads l p true q true:=fun f hf=>by
 cases f with
 | zero=>omega
 | succ f=>
   refine ⟨f,by omega,?_⟩
   rw [rdL,if_neg (fun h=>h hp),if_pos rfl,h]
   simp
theorem go_out {l:List Tk}{p q:Pl}(hp:p.e=0)(hl:p.at_≤l.length)(h:p.operand l=(true,q))(he:q.e=0)(hq:p.at_<q.at_):Leads l p true q.done false:=fun f hf=>by
 cases f with
 | zero=>omega
 | succ f=>
   refine ⟨f,by show _<q.at_+f;omega,?_⟩
   rw [rdL,if_neg (fun h=>h hp),if_pos rfl,h]
   simp [he]
theorem go_bad {l:List Tk}{p q:Pl}{b:Bool}(hp:p.e=0)(hl:p.at_≤l.length)(h:p.operand l=(b,q))(he:q.e≠0):Ends l p true (none,q.at_,q.e):=fun f hf=>by
 cases f with
 | zero=>omega
 | succ f=>
   rw [rdL,if_neg (fun h=>h hp),if_pos rfl,h,if_neg (fun h=>he h.2)]
   exact rdL_bad l f true q he
theorem go_next {l:List Tk}{p q:Pl}{k:Int}(hp:p.e=0)(hl:p.at_≤l.length)(h:p.chain l=(k,q))(hk:k=0∨k=1)(hq:p.at_<q.at_):Leads l p false q (decide (k=1)):=fun f hf=>by
 cases f with
 | zero=>omega
 | succ f=>
   refine ⟨f,by omega,?_⟩
   rw [rdL,if_neg (fun h=>h hp),if_neg (by decide),h,if_neg (by show ¬ k<0;omega)]
theorem go_cbad {l:List Tk}{p q:Pl}{k:Int}(hp:p.e=0)(hl:p.at_≤l.length)(h:p.chain l=(k,q))(hk:k=0∨k=1)(he:q.e≠0):Ends l p false (none,q.at_,q.e):=fun f hf=>by
 cases f with
 | zero=>omega
 | succ f=>
   rw [rdL,if_neg (fun h=>h hp),if_neg (by decide),h,if_neg (by show ¬ k<0;omega)]
   exact rdL_bad l f _ q he
def ndsOf (P:List Nat):List Nd:=P.flatMap ndOf
theorem popW_app (f:Nat→Bool):∀ (P S:List Nat) (o:List Nd),(∀ c∈P,f c=true)→(∀ c,S.head?=some c→f c=false)→popW f (P++S) o=(S,o++ndsOf P)
 | [],[],o,_,_=>by simp [popW,ndsOf]
 | [],c::S,o,_,h=>by
   rw [List.nil_append,popW,if_neg (by rw [h c rfl];decide)]
   simp [ndsOf]
 | c::P,S,o,hP,h=>by
   rw [List.cons_append,popW,if_pos (hP c (by simp)),popW_app f P S _ (fun x hx=>hP x (by simp [hx])) h]
   simp [ndsOf]
abbrev pl (d:Ds)(S:List Nat):Pl:=⟨d.at_,S,d.out,d.made,0⟩
def okAnd (S:List Nat):Prop:=S.head?≠some 33∧S.head?≠some 38
def okOr (S:List Nat):Prop:=okAnd S∧S.head?≠some 124
theorem done_ok {p:Pl}(h:p.opn.head?≠some 33):p.done=p:=by
 obtain ⟨a,S,o,m,e⟩:=p
 have:=popW_app (fun c=>c == 33) [] S o (fun c hc=>absurd hc (by simp)) (fun c hc=>by
  rw [beq_eq_false_iff_ne];rintro rfl;exact h hc)
 rw [List.nil_append] at this
 simp [Pl.done,Pl.pops,this,ndsOf]
theorem sgn_lt {l:List Tk}{i:Nat}{s:ByteArray}(h:sgn l i s=true):i<l.length:=by
 unfold sgn at h
 cases hx:l[i]? with
 | none=>rw [hx] at h;cases h
 | some t=>exact (List.getElem?_eq_some_iff.1 hx).1
theorem kindIs_lt {l:List Tk}{i:Nat}{k:Int}(h:kindIs l i k=true):i<l.length:=by
 unfold kindIs at h
 cases hx:l[i]? with
 | none=>rw [hx] at h;cases h
 | some t=>exact (List.getElem?_eq_some_iff.1 hx).1
theorem sgn_word {l:List Tk}{i:Nat}{s:ByteArray}(h:sgn l i s=true):wordAt l i=false:=by
 unfold sgn at h;unfold wordAt kindIs
 cases hx:l[i]? with
 | none=>rfl
 | some u=>
   rw [hx] at h;simp only [Bool.and_eq_true,beq_iff_eq] at h
   simp [h.1]
theorem opS_lt {l:List Tk}{i:Nat}(h:opS l i≠0):i<l.length:=by
 unfold opS at h
 split at h
 ·rename_i h1;exact sgn_lt h1
 split at h
 ·rename_i h1;exact sgn_lt h1
 split at h
 ·rename_i h1;exact sgn_lt h1
 split at h
 ·rename_i h1;exact sgn_lt h1
 split at h
 ·rename_i h1;exact sgn_lt h1
 split at h
 ·rename_i h1;exact sgn_lt h1
 ·exact absurd rfl h
theorem num_pile {l:List Tk}(p:Pl)(d:Ds)(hp:p.e=0)(ha:p.at_=d.at_) :
 match d.num l with
 | none=>p.val l=(0,p.fail 50 p.at_)
 | some v=>d.at_+1=v.2.at_∧d.out=v.2.out∧d.made=v.2.made∧d.opn=v.2.opn∧d.at_<l.length∧p.val l=(v.1,{ p with at_:=p.at_+1 }):=by
 unfold Ds.num Pl.val;rw [if_neg (show ¬ p.e≠0 from fun h=>h hp),ha]
 by_cases h1:kindIs l d.at_ 4=false
 ·rw [if_pos h1,if_pos h1]
 ·rw [if_neg h1,if_neg h1]
  by_cases h2:(valOf (textAt l d.at_) (numS (textAt l d.at_))).2≠0
  ·rw [if_pos h2,if_pos h2]
  ·rw [if_neg h2,if_neg h2];exact ⟨rfl,rfl,rfl,rfl,kindIs_lt (by simpa using h1),rfl⟩
theorem test_pile {l:List Tk}(p:Pl)(d:Ds)(hp:p.e=0)(ha:d.at_=p.at_+1)(ho:p.out=d.out)(hd:d.at_≤l.length) :
 ((d.test l (textAt l p.at_)).1=true→((p.test l)={ p with at_:=(d.test l (textAt l p.at_)).2.at_,out:=(d.test l (textAt l p.at_)).2.out }∧d.at_<(d.test l (textAt l p.at_)).2.at_ ∧
   (d.test l (textAt l p.at_)).2.at_≤l.length∧(d.test l (textAt l p.at_)).2.made=d.made∧(d.test l (textAt l p.at_)).2.opn=d.opn)) ∧
 ((d.test l (textAt l p.at_)).1=false→(p.test l).e=(d.test l (textAt l p.at_)).2.code∧(p.test l).at_=(d.test l (textAt l p.at_)).2.at_∧(p.test l).e≠0):=by
 obtain ⟨at0,S,o,m,e⟩:=p;obtain ⟨at1,o1,m1,n1,c1⟩:=d;dsimp only at hp ha ho hd;subst hp ha ho;unfold Ds.test Pl.test;dsimp only
 by_cases h0:opS l (at0+1)=0
 ·rw [if_pos h0,if_pos h0];exact ⟨fun h=>(by cases h),fun _=>⟨rfl,rfl,by show (50:Int)≠0;decide⟩⟩
 rw [if_neg h0,if_neg h0];have hlt:=opS_lt h0;generalize opS l (at0+1)=op at *
 by_cases h1:op≤2∧kindIs l (at0+1+1) 5=true
 ·rw [if_pos h1]
  by_cases h2:patOK (textAt l (at0+1+1))=true
  ·rw [if_pos ⟨h1.1,h1.2,h2⟩,if_neg (by rw [h2];decide)]
   have:=kindIs_lt h1.2;refine ⟨fun _=>⟨rfl,?_,?_,rfl,rfl⟩,fun h=>by cases h⟩
   ·show at0+1<at0+1+1+1;omega
   ·show at0+1+1+1≤_;omega
  ·rw [if_neg (fun h=>h2 h.2.2),if_pos (by simpa using h2)]
   have hk:kindIs l (at0+1+1) 4=false:=by
    have:=h1.2;unfold kindIs at this ⊢
    cases hx:l[at0+1+1]? with
    | none=>rfl
    | some t=>rw [hx] at this;simp only [beq_iff_eq] at this;simp [this]
   have:Ds.num ⟨at0+1+1,o,m1,n1,c1⟩ l=none:=by unfold Ds.num;rw [if_pos hk]
   rw [this];exact ⟨fun h=>(by cases h),fun _=>⟨rfl,rfl,by show (50:Int)≠0;decide⟩⟩
 ·rw [if_neg h1,if_neg (fun h=>h1 ⟨h.1,h.2.1⟩)]
  have hn:=num_pile (l:=l) ⟨at0+1+1,S,o,m,0⟩ ⟨at0+1+1,o,m1,n1,c1⟩ rfl rfl
  cases hv:Ds.num ⟨at0+1+1,o,m1,n1,c1⟩ l with
  | none=>
    rw [hv] at hn;have hn:Pl.val ⟨at0+1+1,S,o,m,0⟩ l=_:=hn;rw [hn];have hb:(Pl.fail ⟨at0+1+1,S,o,m,0⟩ 50 (at0+1+1))=⟨at0+1+1,S,o,m,50⟩:=rfl;rw [hb];dsimp only;rw [if_neg (fun h=>by have:=h.1;cases this),if_neg (fun h=>by have:=h.1;cases this)]
    exact ⟨fun h=>(by cases h),fun _=>⟨rfl,rfl,by show (50:Int)≠0;decide⟩⟩
  | some v=>
    rw [hv] at hn;obtain ⟨va,vo,vm,vn,vl,hn⟩:=hn;obtain ⟨v1,v2a,v2o,v2m,v2n,v2c⟩:=v;dsimp only at va vo vm vn hn vl;subst va vo vm vn;rw [hn];dsimp only
    by_cases h2:op≤2∧sgn l (at0+1+1+1) sSlash=true
    ·rw [if_pos h2,if_pos (show (0:Int)=0∧op≤2∧sgn l (at0+1+1+1) sSlash=true from ⟨rfl,h2.1,h2.2⟩)]
     have hl2:=sgn_lt h2.2;have hn:=num_pile (l:=l) ⟨at0+1+1+1+1,S,o,m,0⟩ ⟨at0+1+1+1+1,o,m1,n1,v2c⟩ rfl rfl
     cases hv:Ds.num ⟨at0+1+1+1+1,o,m1,n1,v2c⟩ l with
     | none=>
       rw [hv] at hn;have hn:Pl.val ⟨at0+1+1+1+1,S,o,m,0⟩ l=_:=hn;rw [hn];exact ⟨fun h=>(by cases h),fun _=>⟨rfl,rfl,by show (50:Int)≠0;decide⟩⟩
     | some u=>
       rw [hv] at hn;obtain ⟨ua,uo,um,un,ul,hn⟩:=hn;obtain ⟨u1,u2a,u2o,u2m,u2n,u2c⟩:=u;dsimp only at ua uo um un hn ul;subst ua uo um un;rw [hn];refine ⟨fun _=>⟨rfl,?_,?_,rfl,rfl⟩,fun h=>by cases h⟩
       ·show at0+1<at0+1+1+1+1+1;omega
       ·show at0+1+1+1+1+1≤_;omega
    rw [if_neg h2,if_neg (show ¬ ((0:Int)=0∧op≤2∧sgn l (at0+1+1+1) sSlash=true) from fun h=>h2 h.2)]
    by_cases h3:op≤2∧sgn l (at0+1+1+1) sDots=true
    ·rw [if_pos h3,if_pos (show (0:Int)=0∧op≤2∧sgn l (at0+1+1+1) sDots=true from ⟨rfl,h3.1,h3.2⟩)]
     have hl2:=sgn_lt h3.2;have hn:=num_pile (l:=l) ⟨at0+1+1+1+1,S,o,m,0⟩ ⟨at0+1+1+1+1,o,m1,n1,v2c⟩ rfl rfl
     cases hv:Ds.num ⟨at0+1+1+1+1,o,m1,n1,v2c⟩ l with
     | none=>
       rw [hv] at hn;have hn:Pl.val ⟨at0+1+1+1+1,S,o,m,0⟩ l=_:=hn;rw [hn];exact ⟨fun h=>(by cases h),fun _=>⟨rfl,rfl,by show (50:Int)≠0;decide⟩⟩
     | some u=>
       rw [hv] at hn;obtain ⟨ua,uo,um,un,ul,hn⟩:=hn;obtain ⟨u1,u2a,u2o,u2m,u2n,u2c⟩:=u;dsimp only at ua uo um un hn ul;subst ua uo um un;rw [hn];refine ⟨fun _=>⟨rfl,?_,?_,rfl,rfl⟩,fun h=>by cases h⟩
       ·show at0+1<at0+1+1+1+1+1;omega
       ·show at0+1+1+1+1+1≤_;omega
    rw [if_neg h3,if_neg (show ¬ ((0:Int)=0∧op≤2∧sgn l (at0+1+1+1) sDots=true) from fun h=>h3 h.2)]
    refine ⟨fun _=>⟨rfl,?_,?_,rfl,rfl⟩,fun h=>by cases h⟩
    ·show at0+1<at0+1+1+1;omega
    ·show at0+1+1+1≤_;omega
theorem cnt_cons (c:Nat)(S:List Nat):cntO (c::S)=cntO S+if isOpen c=true then 1 else 0:=by
 unfold cntO;rw [List.countP_cons]
def Wait (P:List Nat):Prop:=P=[]∨P=[38]∨P=[124]∨P=[38,124]
def WaitA (P:List Nat):Prop:=P=[]∨P=[38]
theorem WaitA.wait {P:List Nat}(h:WaitA P):Wait P:=by
 rcases h with h|h
 ·exact .inl h
 ·exact .inr (.inl h)
theorem WaitA.or {P:List Nat}(h:WaitA P):Wait (P++[124]):=by
 rcases h with rfl|rfl
 ·exact .inr (.inr (.inl rfl))
 ·exact .inr (.inr (.inr rfl))
theorem Wait.mem {P:List Nat}(h:Wait P):∀ c∈P,c=38∨c=124:=by
 rcases h with rfl|rfl|rfl|rfl<;>intro c hc<;>simp at hc<;>omega
def SimF (l:List Tk)(d:Ds)(r:Bool×Ds):Prop:=∀ S,cntO S=d.opn →
 (r.1=true→d.at_<r.2.at_∧r.2.at_≤l.length∧r.2.opn=d.opn∧Leads l (pl d S) true (pl r.2 S).done false) ∧
 (r.1=false→Ends l (pl d S) true (none,r.2.at_,r.2.code))
def SimA (l:List Tk)(d:Ds)(r:Bool×Ds):Prop:=∀ S,cntO S=d.opn→okAnd S →
 (r.1=true→d.at_<r.2.at_∧r.2.at_≤l.length∧r.2.opn=d.opn∧sgn l r.2.at_ sAnd=false ∧
  ∃ P o,WaitA P∧r.2.out=o++ndsOf P∧Leads l (pl d S) true ⟨r.2.at_,P++S,o,r.2.made,0⟩ false) ∧
 (r.1=false→Ends l (pl d S) true (none,r.2.at_,r.2.code))
def SimAT (l:List Tk)(d:Ds)(r:Bool×Ds):Prop:=∀ S P o,cntO S=d.opn→okAnd S→WaitA P→d.out=o++ndsOf P →
 (r.1=true→d.at_≤r.2.at_∧r.2.at_≤l.length∧r.2.opn=d.opn∧sgn l r.2.at_ sAnd=false ∧
  ∃ P' o',WaitA P'∧r.2.out=o'++ndsOf P'∧Leads l ⟨d.at_,P++S,o,d.made,0⟩ false ⟨r.2.at_,P'++S,o',r.2.made,0⟩ false) ∧
 (r.1=false→Ends l ⟨d.at_,P++S,o,d.made,0⟩ false (none,r.2.at_,r.2.code))
def SimO (l:List Tk)(d:Ds)(r:Bool×Ds):Prop:=∀ S,cntO S=d.opn→okOr S →
 (r.1=true→d.at_<r.2.at_∧r.2.at_≤l.length∧r.2.opn=d.opn∧sgn l r.2.at_ sAnd=false∧sgn l r.2.at_ sOr=false ∧
  ∃ P o,Wait P∧r.2.out=o++ndsOf P∧Leads l (pl d S) true ⟨r.2.at_,P++S,o,r.2.made,0⟩ false) ∧
 (r.1=false→Ends l (pl d S) true (none,r.2.at_,r.2.code))
def SimOT (l:List Tk)(d:Ds)(r:Bool×Ds):Prop:=∀ S P o,cntO S=d.opn→okOr S→Wait P→d.out=o++ndsOf P→sgn l d.at_ sAnd=false →
 (r.1=true→d.at_≤r.2.at_∧r.2.at_≤l.length∧r.2.opn=d.opn∧sgn l r.2.at_ sAnd=false∧sgn l r.2.at_ sOr=false ∧
  ∃ P' o',Wait P'∧r.2.out=o'++ndsOf P'∧Leads l ⟨d.at_,P++S,o,d.made,0⟩ false ⟨r.2.at_,P'++S,o',r.2.made,0⟩ false) ∧
 (r.1=false→Ends l ⟨d.at_,P++S,o,d.made,0⟩ false (none,r.2.at_,r.2.code))
def SimOf (l:List Tk)(m:Md)(d:Ds)(r:Bool×Ds):Prop:=match m with
 | .fac=>SimF l d r
 | .and=>SimA l d r
 | .andT=>SimAT l d r
 | .or=>SimO l d r
 | .orT=>SimOT l d r
def needD (l:List Tk)(m:Md)(d:Ds):Nat:=4*(l.length-d.at_)+match m with
 | .fac=>1
 | .and=>2
 | .andT=>1
 | .or=>3
 | .orT=>1
theorem ends_cbad {l:List Tk}{p q:Pl}{k c:Int}{i:Nat}(hp:p.e=0)(hl:p.at_≤l.length)(h:p.chain l=(k,q))(hk:k=0∨k=1)(hq:q.e=c)(hi:q.at_=i)(he:c≠0):Ends l p false (none,i,c):=by
 have:=go_cbad hp hl h hk (by rw [hq];exact he)
 rwa [hq,hi] at this
theorem ends_bad {l:List Tk}{p q:Pl}{b:Bool}{c:Int}{i:Nat}(hp:p.e=0)(hl:p.at_≤l.length)(h:p.operand l=(b,q))(hq:q.e=c)(hi:q.at_=i)(he:c≠0):Ends l p true (none,i,c):=by
 have:=go_bad hp hl h (by rw [hq];exact he)
 rwa [hq,hi] at this
theorem make_ok {p:Pl}(h:¬ 64≤p.made):p.make1={ p with made:=p.made+1 }:=by unfold Pl.make1;rw [if_neg h]
theorem make_bad {p:Pl}(h:64≤p.made)(he:p.e=0):p.make1={ p with made:=p.made+1,e:=51 }:=by
 unfold Pl.make1 Pl.fail;rw [if_pos h,if_pos he]
theorem deep_ok {p:Pl}(h:¬ 32≤cntO p.opn):p.deep=p:=by unfold Pl.deep;rw [if_neg h]
theorem deep_bad {p:Pl}(h:32≤cntO p.opn)(he:p.e=0):p.deep={ p with e:=53 }:=by
 unfold Pl.deep Pl.fail;rw [if_pos h,if_pos he]
theorem step_ok {p:Pl}(h:p.e=0):p.step={ p with at_:=p.at_+1 }:=by unfold Pl.step;rw [if_pos h]
theorem step_bad {p:Pl}(h:p.e≠0):p.step=p:=by unfold Pl.step;rw [if_neg h]
theorem make_e {p:Pl}(h:p.e≠0):p.make1.e=p.e∧p.make1.at_=p.at_:=by
 unfold Pl.make1 Pl.fail;simp only [if_neg h];split<;>exact ⟨rfl,rfl⟩
theorem sim_word {l:List Tk}{d:Ds}{S:List Nat}(hd:d.at_≤l.length)(h1:sgn l d.at_ sNot=false)(h2:sgn l d.at_ sOpen=false) :
 (wordAt l d.at_=false→Ends l (pl d S) true (none,d.at_,50)) ∧
 (wordAt l d.at_=true→64≤d.made→Ends l (pl d S) true (none,d.at_,51)) ∧
 (wordAt l d.at_=true→¬ 64≤d.made→∀ k,(textAt l d.at_=tAny∧k=1)∨(textAt l d.at_≠tAny∧textAt l d.at_=tNone∧k=2) →
  Leads l (pl d S) true (pl (Ds.put { d with at_:=d.at_+1,made:=d.made+1 } (Nd.of k)) S).done false) ∧
 (wordAt l d.at_=true→¬ 64≤d.made→textAt l d.at_≠tAny→textAt l d.at_≠tNone →
  ((Ds.test { d with at_:=d.at_+1,made:=d.made+1 } l (textAt l d.at_)).1=true →
    d.at_<(Ds.test { d with at_:=d.at_+1,made:=d.made+1 } l (textAt l d.at_)).2.at_∧(Ds.test { d with at_:=d.at_+1,made:=d.made+1 } l (textAt l d.at_)).2.at_≤l.length ∧
    (Ds.test { d with at_:=d.at_+1,made:=d.made+1 } l (textAt l d.at_)).2.opn=d.opn ∧
    Leads l (pl d S) true (pl (Ds.test { d with at_:=d.at_+1,made:=d.made+1 } l (textAt l d.at_)).2 S).done false) ∧
  ((Ds.test { d with at_:=d.at_+1,made:=d.made+1 } l (textAt l d.at_)).1=false →
    Ends l (pl d S) true (none,(Ds.test { d with at_:=d.at_+1,made:=d.made+1 } l (textAt l d.at_)).2.at_,(Ds.test { d with at_:=d.at_+1,made:=d.made+1 } l (textAt l d.at_)).2.code))):=by
 have hop:(pl d S).operand l=if wordAt l d.at_=true then
  (if textAt l d.at_=tAny then (true,(pl d S).plain 1) else if textAt l d.at_=tNone then (true,(pl d S).plain 2)
   else (true,if (pl d S).make1.e=0 then (pl d S).make1.test l else (pl d S).make1))
  else (false,((pl d S).fail 50 d.at_).step):=by
  unfold Pl.operand;rw [if_neg (show ¬ sgn l (pl d S).at_ sNot=true by show ¬ sgn l d.at_ sNot=true;rw [h1];decide),if_neg (show ¬ sgn l (pl d S).at_ sOpen=true by show ¬ sgn l d.at_ sOpen=true;rw [h2];decide)]
 refine ⟨fun hw=>?_,fun hw hm=>?_,fun hw hm k hk=>?_,fun hw hm ha hn=>?_⟩
 ·rw [if_neg (by rw [hw];decide)] at hop
  exact ends_bad rfl hd hop rfl rfl (by decide)
 ·rw [if_pos hw] at hop;have hmk:(pl d S).make1=⟨d.at_,S,d.out,d.made+1,51⟩:=make_bad (p:=pl d S) hm rfl
  have hpl:∀ k,(pl d S).plain k=⟨d.at_,S,d.out,d.made+1,51⟩:=fun k=>by
   unfold Pl.plain;rw [hmk,if_neg (by show ¬ (51:Int)=0;decide)]
  rw [hpl,hpl,hmk,if_neg (show ¬ (51:Int)=0 by decide)] at hop
  refine ends_bad (b:=true) (q:=⟨d.at_,S,d.out,d.made+1,51⟩) rfl hd ?_ rfl rfl (by decide)
  rw [hop];(repeat' split)<;>rfl
 ·rw [if_pos hw] at hop;have hlt:=kindIs_lt (l:=l) (i:=d.at_) (k:=2) (by unfold wordAt at hw;rw [Bool.and_eq_true] at hw;exact hw.1)
  have hpl:∀ k,(pl d S).plain k=pl (Ds.put { d with at_:=d.at_+1,made:=d.made+1 } (Nd.of k)) S:=fun k=>by
   unfold Pl.plain;rw [make_ok (p:=pl d S) hm,if_pos (show (0:Int)=0 from rfl)];rfl
  rw [hpl,hpl] at hop;rcases hk with ⟨h,rfl⟩|⟨h,h',rfl⟩
  ·rw [if_pos h] at hop;exact go_out (p:=pl d S) rfl hd hop rfl (Nat.lt_succ_self _)
  ·rw [if_neg h,if_pos h'] at hop;exact go_out (p:=pl d S) rfl hd hop rfl (Nat.lt_succ_self _)
 ·have hlt:=kindIs_lt (l:=l) (i:=d.at_) (k:=2) (by unfold wordAt at hw;rw [Bool.and_eq_true] at hw;exact hw.1)
  rw [if_pos hw,if_neg ha,if_neg hn,make_ok (p:=pl d S) hm,if_pos (show (0:Int)=0 from rfl)] at hop
  have ht:=test_pile (l:=l) { pl d S with made:=(pl d S).made+1 } { d with at_:=d.at_+1,made:=d.made+1 } rfl rfl rfl (show d.at_+1≤l.length by omega)
  refine ⟨fun hr=>?_,fun hr=>?_⟩
  ·obtain ⟨e1,e2,e3,e4,e5⟩:=ht.1 hr;refine ⟨Nat.lt_trans (Nat.lt_succ_self _) e2,e3,e5,?_⟩
   have he:(Pl.test { pl d S with made:=(pl d S).made+1 } l)=pl (Ds.test { d with at_:=d.at_+1,made:=d.made+1 } l (textAt l d.at_)).2 S:=by
    rw [e1]
    show (⟨_,S,_,d.made+1,0⟩:Pl)=⟨_,S,_,(Ds.test { d with at_:=d.at_+1,made:=d.made+1 } l (textAt l d.at_)).2.made,0⟩
    rw [e4]
   rw [he] at hop;exact go_out (p:=pl d S) rfl hd hop rfl (Nat.lt_trans (Nat.lt_succ_self _) e2)
  ·obtain ⟨e1,e2,e3⟩:=ht.2 hr;exact ends_bad (p:=pl d S) rfl hd hop e1 e2 (by have h3:=e3;rw [e1] at h3;exact h3)
theorem nds_snoc (o:List Nd)(P:List Nat)(c:Nat):o++ndsOf P++ndOf c=o++ndsOf (P++[c]):=by simp [ndsOf]
theorem sim (l:List Tk):∀ (n:Nat) (m:Md) (d:Ds),needD l m d≤n→d.at_≤l.length→SimOf l m d (dsc l n m d)
 | 0,m,d,hn,hd=>by unfold needD at hn;cases m<;>simp at hn
 | n+1,.fac,d,hn,hd=>by
   intro S hS;have hn:4*(l.length-d.at_)+1≤n+1:=hn;rw [dsc]
   by_cases h1:sgn l d.at_ sNot=true
   ·rw [if_pos h1];have hlt:=sgn_lt h1
    have hop:(pl d S).operand l=(false,((pl d S).deep.make1.push 33).step):=by
     unfold Pl.operand;rw [if_pos (show sgn l (pl d S).at_ sNot=true from h1)]
    by_cases h2:32≤d.opn
    ·rw [if_pos h2];refine ⟨fun h=>(by cases h),fun _=>?_⟩
     have hdp:(pl d S).deep={ pl d S with e:=53 }:=deep_bad (p:=pl d S) (by show 32≤cntO S;omega) rfl
     rw [hdp] at hop;obtain ⟨m1,m2⟩:=make_e (p:={ pl d S with e:=53 }) (by show (53:Int)≠0;decide)
     have hst:((Pl.make1 { pl d S with e:=53 }).push 33).step=(Pl.make1 { pl d S with e:=53 }).push 33:=step_bad (by show (Pl.make1 { pl d S with e:=53 }).e≠0;rw [m1];show (53:Int)≠0;decide)
     rw [hst] at hop;exact ends_bad (c:=53) rfl hd hop m1 m2 (by decide)
    rw [if_neg h2,];have hdp:(pl d S).deep=pl d S:=deep_ok (p:=pl d S) (by show ¬ 32≤cntO S;omega)
    rw [hdp] at hop
    by_cases h3:64≤d.made
    ·rw [if_pos h3];refine ⟨fun h=>(by cases h),fun _=>?_⟩
     rw [make_bad (p:=pl d S) h3 rfl,step_bad (by show (51:Int)≠0;decide)] at hop
     exact ends_bad (c:=51) rfl hd hop rfl rfl (by decide)
    rw [if_neg h3];rw [make_ok (p:=pl d S) h3,step_ok (show (0:Int)=0 from rfl)] at hop
    have hin:=go_in (p:=pl d S) rfl hd hop (Nat.lt_succ_self _);have ih:=sim l n .fac { d with at_:=d.at_+1,made:=d.made+1,opn:=d.opn+1 } (by show 4*(l.length-(d.at_+1))+1≤n;omega) (by show d.at_+1≤_;omega) (33::S) (by rw [cnt_cons,hS];rfl)
    generalize dsc l n .fac { d with at_:=d.at_+1,made:=d.made+1,opn:=d.opn+1 }=r at *;obtain ⟨b,d'⟩:=r;dsimp only at ih ⊢
    cases b with
    | true=>
      obtain ⟨i1,i2,i3,i4⟩:=ih.1 rfl;rw [if_pos rfl];refine ⟨fun _=>⟨Nat.lt_trans (Nat.lt_succ_self _) i1,i2,?_,?_⟩,fun h=>(by cases h)⟩
      ·show d'.opn-1=d.opn;rw [i3];rfl
      ·exact hin.trans i4
    | false=>
      rw [if_neg (by decide)]
      exact ⟨fun h=>(by cases h),fun _=>hin.ends (ih.2 rfl)⟩
   rw [if_neg h1]
   by_cases h2:sgn l d.at_ sOpen=true
   ·rw [if_pos h2];have hlt:=sgn_lt h2
    have hop:(pl d S).operand l=(false,((pl d S).deep.push 40).step):=by
     unfold Pl.operand;rw [if_neg (show ¬ sgn l (pl d S).at_ sNot=true from h1),if_pos (show sgn l (pl d S).at_ sOpen=true from h2)]
    by_cases h3:32≤d.opn
    ·rw [if_pos h3];refine ⟨fun h=>(by cases h),fun _=>?_⟩
     rw [deep_bad (p:=pl d S) (by show 32≤cntO S;omega) rfl,step_bad (by show (53:Int)≠0;decide)] at hop
     exact ends_bad (c:=53) rfl hd hop rfl rfl (by decide)
    rw [if_neg h3];rw [deep_ok (p:=pl d S) (by show ¬ 32≤cntO S;omega),step_ok (show (0:Int)=0 from rfl)] at hop
    have hin:=go_in (p:=pl d S) rfl hd hop (Nat.lt_succ_self _);have ih:=sim l n .or { d with at_:=d.at_+1,opn:=d.opn+1 } (by show 4*(l.length-(d.at_+1))+3≤n;omega) (by show d.at_+1≤_;omega) (40::S) (by rw [cnt_cons,hS];rfl) ⟨⟨by simp,by simp⟩,by simp⟩
    generalize dsc l n .or { d with at_:=d.at_+1,opn:=d.opn+1 }=r at *;obtain ⟨b,d'⟩:=r;dsimp only at ih ⊢
    cases b with
    | false=>
      rw [if_neg (by decide)]
      exact ⟨fun h=>(by cases h),fun _=>hin.ends (ih.2 rfl)⟩
    | true=>
      obtain ⟨i1,i2,i3,i4,i5,P,o,hP,ho,i6⟩:=ih.1 rfl;rw [if_pos rfl];have hlead:=hin.trans i6
      have hch:Pl.chain ⟨d'.at_,P++40::S,o,d'.made,0⟩ l=(0,(Pl.closing ⟨d'.at_,P++40::S,o,d'.made,0⟩ l).2)∧(Pl.closing ⟨d'.at_,P++40::S,o,d'.made,0⟩ l).2=if sgn l d'.at_ sClose=false then ⟨d'.at_,P++40::S,o,d'.made,50⟩ else (pl { d' with at_:=d'.at_+1,opn:=d'.opn-1 } S).done:=by
       have hcl:Pl.closing ⟨d'.at_,P++40::S,o,d'.made,0⟩ l=(true,if sgn l d'.at_ sClose=false then ⟨d'.at_,P++40::S,o,d'.made,50⟩ else (pl { d' with at_:=d'.at_+1,opn:=d'.opn-1 } S).done):=by
        unfold Pl.closing;rw [if_neg (show ¬ (P++40::S).contains 40=false by simp)]
        dsimp only
        by_cases hc:sgn l d'.at_ sClose=false
        ·rw [if_pos hc,if_pos hc];rfl
        ·rw [if_neg hc,if_neg hc]
         have hpp:popW (fun c=>c != 40) (P++40::S) o=(40::S,o++ndsOf P):=popW_app _ P (40::S) o (fun c hc=>by rcases hP.mem c hc with rfl|rfl<;>rfl) (fun c hc=>by
          have:c=40:=by simpa using hc.symm
          subst this;rfl)
         unfold Pl.pops;dsimp only;rw [hpp];dsimp only [List.tail];rw [← ho]
       refine ⟨?_,by rw [hcl]⟩
       unfold Pl.chain;rw [if_neg (show ¬ sgn l d'.at_ sAnd=true by rw [i4];decide),if_neg (show ¬ sgn l d'.at_ sOr=true by rw [i5];decide),if_pos (by rw [hcl])]
      rw [hch.2] at hch
      by_cases hc:sgn l d'.at_ sClose=false
      ·rw [if_pos hc];rw [if_pos hc] at hch;exact ⟨fun h=>(by cases h),fun _=>hlead.ends (ends_cbad (c:=50) rfl i2 hch.1 (.inl rfl) rfl rfl (by decide))⟩
      ·rw [if_neg hc];rw [if_neg hc] at hch;have hlt':=sgn_lt (l:=l) (i:=d'.at_) (s:=sClose) (by simpa using hc)
       refine ⟨fun _=>⟨?_,?_,?_,?_⟩,fun h=>(by cases h)⟩
       ·show d.at_<d'.at_+1
        have:d.at_+1<d'.at_:=i1;omega
       ·show d'.at_+1≤_;omega
       ·show d'.opn-1=d.opn;rw [i3];rfl
       ·exact hlead.trans (go_next (k:=0) rfl i2 hch.1 (.inl rfl) (Nat.lt_succ_self _))
   rw [if_neg h2];obtain ⟨w1,w2,w3,w4⟩:=sim_word (S:=S) hd (by simpa using h1) (by simpa using h2)
   by_cases hw:wordAt l d.at_=false
   ·rw [if_pos hw];exact ⟨fun h=>(by cases h),fun _=>w1 hw⟩
   have hw':wordAt l d.at_=true:=by simpa using hw
   have hlt:=kindIs_lt (l:=l) (i:=d.at_) (k:=2) (by unfold wordAt at hw';rw [Bool.and_eq_true] at hw';exact hw'.1)
   rw [if_neg hw]
   by_cases hm:64≤d.made
   ·rw [if_pos hm];exact ⟨fun h=>(by cases h),fun _=>w2 hw' hm⟩
   rw [if_neg hm]
   by_cases ha:textAt l d.at_=tAny
   ·rw [if_pos ha];exact ⟨fun _=>⟨Nat.lt_succ_self _,hlt,rfl,w3 hw' hm 1 (.inl ⟨ha,rfl⟩)⟩,fun h=>(by cases h)⟩
   rw [if_neg ha]
   by_cases hb:textAt l d.at_=tNone
   ·rw [if_pos hb];exact ⟨fun _=>⟨Nat.lt_succ_self _,hlt,rfl,w3 hw' hm 2 (.inr ⟨ha,hb,rfl⟩)⟩,fun h=>(by cases h)⟩
   rw [if_neg hb];exact w4 hw' hm ha hb
 | n+1,.and,d,hn,hd=>by
   intro S hS hA;have hn:4*(l.length-d.at_)+2≤n+1:=hn;rw [dsc];have ih:=sim l n .fac d (by show 4*(l.length-d.at_)+1≤n;omega) hd S hS
   generalize dsc l n .fac d=r at *;obtain ⟨b,d'⟩:=r;dsimp only at ih ⊢
   cases b with
   | false=>
     rw [if_neg (by decide)]
     exact ⟨fun h=>(by cases h),fun _=>ih.2 rfl⟩
   | true=>
     rw [if_pos rfl];obtain ⟨i1,i2,i3,i4⟩:=ih.1 rfl;rw [done_ok (p:=pl d' S) hA.1] at i4;have jh:=sim l n .andT d' (by show 4*(l.length-d'.at_)+1≤n;omega) i2 S [] d'.out (by rw [hS,i3]) hA (.inl rfl) (by simp [ndsOf])
     refine ⟨fun h=>?_,fun h=>i4.ends (jh.2 h)⟩
     obtain ⟨j1,j2,j3,j4,P,o,hP,ho,j5⟩:=jh.1 h;exact ⟨by omega,j2,by rw [j3,i3],j4,P,o,hP,ho,i4.trans j5⟩
 | n+1,.andT,d,hn,hd=>by
   intro S P o hS hA hP ho;have hn:4*(l.length-d.at_)+1≤n+1:=hn;rw [dsc]
   by_cases h1:sgn l d.at_ sAnd=true
   ·rw [if_pos h1];have hlt:=sgn_lt h1
    have hpp:popW (fun c=>c == 38) (P++S) o=(S,o++ndsOf P):=popW_app _ P S o (fun c hc=>by
     rcases hP with rfl|rfl
     ·cases hc
     ·have:c=38:=by simpa using hc
      subst this;rfl) (fun c hc=>by rw [beq_eq_false_iff_ne];rintro rfl;exact hA.2 hc)
    have hch:Pl.chain ⟨d.at_,P++S,o,d.made,0⟩ l=(1,(((Pl.make1 ⟨d.at_,P++S,o,d.made,0⟩).pops (fun c=>c == 38)).push 38).step):=by
     unfold Pl.chain;rw [if_pos (show sgn l d.at_ sAnd=true from h1)]
    by_cases h3:64≤d.made
    ·rw [if_pos h3];rw [make_bad (p:=⟨d.at_,P++S,o,d.made,0⟩) h3 rfl,step_bad (by show (51:Int)≠0;decide)] at hch
     exact ⟨fun h=>(by cases h),fun _=>ends_cbad (c:=51) rfl hd hch (.inr rfl) rfl rfl (by decide)⟩
    rw [if_neg h3];rw [make_ok (p:=⟨d.at_,P++S,o,d.made,0⟩) h3,step_ok (show (0:Int)=0 from rfl)] at hch
    unfold Pl.pops at hch;dsimp only at hch;rw [hpp,← ho] at hch;have hnx:=go_next (p:=⟨d.at_,P++S,o,d.made,0⟩) rfl hd hch (.inr rfl) (Nat.lt_succ_self _);have ih:=sim l n .fac { d with at_:=d.at_+1,made:=d.made+1 } (by show 4*(l.length-(d.at_+1))+1≤n;omega) (by show d.at_+1≤_;omega) (38::S) (by rw [cnt_cons,hS];rfl)
    generalize dsc l n .fac { d with at_:=d.at_+1,made:=d.made+1 }=r at *;obtain ⟨b,d'⟩:=r;dsimp only at ih ⊢
    cases b with
    | false=>
      rw [if_neg (by decide)]
      exact ⟨fun h=>(by cases h),fun _=>hnx.ends (ih.2 rfl)⟩
    | true=>
      rw [if_pos rfl];obtain ⟨i1,i2,i3,i4⟩:=ih.1 rfl;have i1:d.at_+1<d'.at_:=i1;have i3:d'.opn=d.opn:=i3;rw [done_ok (p:=pl d' (38::S)) (by simp)] at i4
      have jh:=sim l n .andT (d'.put (Nd.of 5)) (by show 4*(l.length-d'.at_)+1≤n;omega) i2 S [38] d'.out (by show _=d'.opn;rw [hS,i3]) hA (.inr rfl) rfl
      refine ⟨fun h=>?_,fun h=>(hnx.trans i4).ends (jh.2 h)⟩
      obtain ⟨j1,j2,j3,j4,P',o',hP',ho',j5⟩:=jh.1 h;have j1:d'.at_≤_:=j1;exact ⟨by omega,j2,j3.trans i3,j4,P',o',hP',ho',(hnx.trans i4).trans j5⟩
   ·rw [if_neg h1];exact ⟨fun _=>⟨Nat.le_refl _,hd,rfl,by simpa using h1,P,o,hP,ho,Leads.refl _ _ _⟩,fun h=>(by cases h)⟩
 | n+1,.or,d,hn,hd=>by
   intro S hS hO;have hn:4*(l.length-d.at_)+3≤n+1:=hn;rw [dsc];have ih:=sim l n .and d (by show 4*(l.length-d.at_)+2≤n;omega) hd S hS hO.1
   generalize dsc l n .and d=r at *;obtain ⟨b,d'⟩:=r;dsimp only at ih ⊢
   cases b with
   | false=>
     rw [if_neg (by decide)]
     exact ⟨fun h=>(by cases h),fun _=>ih.2 rfl⟩
   | true=>
     rw [if_pos rfl];obtain ⟨i1,i2,i3,i4,P,o,hP,ho,i5⟩:=ih.1 rfl;have jh:=sim l n .orT d' (by show 4*(l.length-d'.at_)+1≤n;omega) i2 S P o (by rw [hS,i3]) hO hP.wait ho i4
     refine ⟨fun h=>?_,fun h=>i5.ends (jh.2 h)⟩
     obtain ⟨j1,j2,j3,j4,j5,P',o',hP',ho',j6⟩:=jh.1 h;exact ⟨by omega,j2,by rw [j3,i3],j4,j5,P',o',hP',ho',i5.trans j6⟩
 | n+1,.orT,d,hn,hd=>by
   intro S P o hS hO hP ho hA;have hn:4*(l.length-d.at_)+1≤n+1:=hn;rw [dsc]
   by_cases h1:sgn l d.at_ sOr=true
   ·rw [if_pos h1];have hlt:=sgn_lt h1
    have hpp:popW (fun c=>c == 38 || c == 124) (P++S) o=(S,o++ndsOf P):=popW_app _ P S o (fun c hc=>by
     rcases hP.mem c hc with rfl|rfl<;>rfl) (fun c hc=>by
     have h1:c≠38:=by rintro rfl;exact hO.1.2 hc
     have h2:c≠124:=by rintro rfl;exact hO.2 hc
     simp [h1,h2])
    have hch:Pl.chain ⟨d.at_,P++S,o,d.made,0⟩ l=(1,(((Pl.make1 ⟨d.at_,P++S,o,d.made,0⟩).pops (fun c=>c == 38 || c == 124)).push 124).step):=by
     unfold Pl.chain;rw [if_neg (show ¬ sgn l d.at_ sAnd=true by rw [hA];decide),if_pos (show sgn l d.at_ sOr=true from h1)]
    by_cases h3:64≤d.made
    ·rw [if_pos h3];rw [make_bad (p:=⟨d.at_,P++S,o,d.made,0⟩) h3 rfl,step_bad (by show (51:Int)≠0;decide)] at hch
     exact ⟨fun h=>(by cases h),fun _=>ends_cbad (c:=51) rfl hd hch (.inr rfl) rfl rfl (by decide)⟩
    rw [if_neg h3];rw [make_ok (p:=⟨d.at_,P++S,o,d.made,0⟩) h3,step_ok (show (0:Int)=0 from rfl)] at hch
    unfold Pl.pops at hch;dsimp only at hch;rw [hpp,← ho] at hch;have hnx:=go_next (p:=⟨d.at_,P++S,o,d.made,0⟩) rfl hd hch (.inr rfl) (Nat.lt_succ_self _);have ih:=sim l n .and { d with at_:=d.at_+1,made:=d.made+1 } (by show 4*(l.length-(d.at_+1))+2≤n;omega) (by show d.at_+1≤_;omega) (124::S) (by rw [cnt_cons,hS];rfl) ⟨by simp,by simp⟩
    generalize dsc l n .and { d with at_:=d.at_+1,made:=d.made+1 }=r at *;obtain ⟨b,d'⟩:=r;dsimp only at ih ⊢
    cases b with
    | false=>
      rw [if_neg (by decide)]
      exact ⟨fun h=>(by cases h),fun _=>hnx.ends (ih.2 rfl)⟩
    | true=>
      rw [if_pos rfl];obtain ⟨i1,i2,i3,i4,P2,o2,hP2,ho2,i5⟩:=ih.1 rfl;have i1:d.at_+1<d'.at_:=i1;have i3:d'.opn=d.opn:=i3;have hst:P2++124::S=(P2++[124])++S:=by simp
      rw [hst] at i5
      have jh:=sim l n .orT (d'.put (Nd.of 6)) (by show 4*(l.length-d'.at_)+1≤n;omega) i2 S (P2++[124]) o2 (by show _=d'.opn;rw [hS,i3]) hO hP2.or (by
       show d'.out++[Nd.of 6]=_
       rw [ho2,← nds_snoc];rfl) i4
      refine ⟨fun h=>?_,fun h=>(hnx.trans i5).ends (jh.2 h)⟩
      obtain ⟨j1,j2,j3,j4,j5,P',o',hP',ho',j6⟩:=jh.1 h;have j1:d'.at_≤_:=j1;exact ⟨by omega,j2,j3.trans i3,j4,j5,P',o',hP',ho',(hnx.trans i5).trans j6⟩
   ·rw [if_neg h1];exact ⟨fun _=>⟨Nat.le_refl _,hd,rfl,hA,by simpa using h1,P,o,hP,ho,Leads.refl _ _ _⟩,fun h=>(by cases h)⟩
theorem read_same (l:List Tk)(i:Nat)(hi:i≤l.length):readR l i=readD l i:=by
 have h:=sim l (dscFuel l) .or ⟨i,[],0,0,0⟩ (by show 4*(l.length-i)+3≤5*l.length+10;omega) hi [] rfl ⟨⟨by simp,by simp⟩,by simp⟩
 unfold readR readD;generalize dsc l (dscFuel l) .or ⟨i,[],0,0,0⟩=r at *;obtain ⟨b,d'⟩:=r;dsimp only at h ⊢
 cases b with
 | false=>
   rw [if_neg (by decide)]
   exact h.2 rfl (l.length+1) (by show _<i+_;omega)
 | true=>
   rw [if_pos rfl];obtain ⟨i1,i2,i3,i4,i5,P,o,hP,ho,hl⟩:=h.1 rfl;obtain ⟨f,hf,e⟩:=hl (l.length+1) (by show _<i+_;omega)
   have e:rdL l (l.length+1) true ⟨i,[],[],0,0⟩=_:=e;rw [e];have hf:l.length<d'.at_+f:=hf;have i2:d'.at_≤l.length:=i2
   cases f with
   | zero=>omega
   | succ f=>
     have hcl:Pl.closing ⟨d'.at_,P++[],o,d'.made,0⟩ l=(false,⟨d'.at_,P++[],o,d'.made,0⟩):=by
      unfold Pl.closing;rw [if_pos];rcases hP with rfl|rfl|rfl|rfl<;>rfl
     have hch:Pl.chain ⟨d'.at_,P++[],o,d'.made,0⟩ l=(-1,Pl.pops ⟨d'.at_,P++[],o,d'.made,0⟩ (fun _=>true)):=by
      unfold Pl.chain;rw [if_neg (show ¬ sgn l d'.at_ sAnd=true by rw [show sgn l d'.at_ sAnd=false from i4];decide),if_neg (show ¬ sgn l d'.at_ sOr=true by rw [show sgn l d'.at_ sOr=false from i5];decide),hcl,if_neg (show ¬ (false=true) by decide)]
     rw [rdL,if_neg (show ¬ ((0:Int)≠0) from fun h=>h rfl),if_neg (by decide),hch,if_pos (show (-1:Int)<0 by decide)]
     unfold Pl.pops;dsimp only;rw [popW_app _ P [] o (fun _ _=>rfl) (fun c hc=>by cases hc)]
     show (some (o++ndsOf P),d'.at_,(0:Int))=_
     rw [← ho]
end Go.Proofs.YtjokciofeicdkaaGreatDoor
