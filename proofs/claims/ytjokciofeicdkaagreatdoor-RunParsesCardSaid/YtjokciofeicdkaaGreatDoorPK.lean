/- A part of the proof of RunParses: TokF Alone PatS QueS. -/
import Derived.Test.YtjokciofeicdkaaGreatDoorPH
import Derived.Test.YtjokciofeicdkaaGreatDoorPA
import Derived.Test.YtjokciofeicdkaaGreatDoorPI
set_option maxHeartbeats 16000000
set_option maxRecDepth 100000
set_option linter.all false
namespace Go.Proofs.YtjokciofeicdkaaGreatDoor
open Go.RowKit
def nlB:ByteArray:=⟨#[10]⟩
def TokG (t:Tk):Prop:=(t.kind=1→t.text=nlB)∧(t.kind=2→isName (bs t.text)=true)∧(t.kind=5→isPatR (bs t.text)=true)∧(t.kind=4→(numR t.text).isSome=true)∧t.text.size≤16384∧1≤t.line∧t.line≤16386
def Lined (l:List Tk):Prop:=∀ (i:Nat) (t:Tk),l[i]?=some t→t.kind≠1→∃ u,l[i+1]?=some u∧u.line=t.line
theorem Lined.nil:Lined []:=fun i t h=>by simp at h
theorem Lined.append {a b:List Tk}(ha:Lined a)(hb:Lined b):Lined (a++b):=by
 intro i t h hk
 by_cases hi:i<a.length
 ·rw [List.getElem?_append_left hi] at h;obtain ⟨u,hu,e⟩:=ha i t h hk;have:=(List.getElem?_eq_some_iff.1 hu).1;exact ⟨u,by rw [List.getElem?_append_left this];exact hu,e⟩
 ·rw [List.getElem?_append_right (by omega)] at h
  obtain ⟨u,hu,e⟩:=hb _ t h hk;exact ⟨u,by rw [List.getElem?_append_right (by omega),show i+1-a.length=i-a.length+1 by omega];exact hu,e⟩
theorem runE_drop (s:ByteArray)(i:Nat):bs (s.extract i (runE s i))=((bs s).drop i).take (wordLen ((bs s).drop i)):=by
 rw [bs_extract];unfold runE;rw [show i+wordLen ((bs s).drop i)-i=wordLen ((bs s).drop i) by omega]
theorem nm_word:∀ (l:Bytes),nm false (l.take (wordLen l))=true
 | []=>rfl
 | c::r=>by
   unfold wordLen
   split
   ·rename_i h;rw [List.take_succ_cons];unfold nm;unfold wordU at h;rw [if_neg (by rcases Bool.or_eq_true_iff.1 h with h|h<;>rw [h]<;>simp)]
    exact nm_word r
   ·rfl
theorem name_run (s:ByteArray)(i:Nat)(h:i<s.size)(hl:letterN s[i].toNat=true)(h24:¬ 24<runE s i-i):isName (bs (s.extract i (runE s i)))=true:=by
 have hw:=runE_in s i h (by unfold wordN;rw [hl];rfl)
 have hle:=(runE_le s i (by omega)).2
 have hlen:(bs (s.extract i (runE s i))).length=runE s i-i:=by rw [bs_length,ByteArray.size_extract];omega
 unfold isName;rw [decide_eq_true (by omega),decide_eq_true (by omega),runE_drop,bs_drop s i h]
 have:wordLen (s[i]::(bs s).drop (i+1))=wordLen ((bs s).drop (i+1))+1:=by
  show (if wordU s[i] then _ else _)=_
  rw [if_pos (by unfold wordU letterU;rw [hl];rfl)]
 rw [this,List.take_succ_cons]
 show (true && (true && nm true (_::_)))=true
 unfold nm;rw [if_neg (by unfold letterU;rw [hl];simp),nm_word];rfl
theorem tokR_good (s:ByteArray)(i:Nat)(h:(tokR s i).2.2=0)(no:Int)(hs:s.size≤16384)(hn:1≤no∧no≤16386)(c:Int) :
  TokG ⟨(tokR s i).1,s.extract i (tokR s i).2.1,no,c⟩∧(tokR s i).1≠1:=by
 have hsz:∀ e,(s.extract i e).size≤16384:=fun e=>by rw [ByteArray.size_extract];omega
 by_cases hi:i<s.size
 ·unfold tokR at h ⊢;rw [bs_at s i hi] at h ⊢;dsimp only at h ⊢
  by_cases hL:letterN s[i].toNat=true
  ·rw [if_pos hL] at h ⊢;unfold tokName tokNameJ at h ⊢
   split at h
   ·cases h
   ·rename_i h24;rw [if_neg h24]
    split at h
    ·rename_i hd;rw [if_pos hd];exact ⟨⟨fun h=>by simp at h,fun _=>name_run s i hi hL h24,fun h=>by simp at h,fun h=>by simp at h,hsz _,hn⟩,by simp⟩
    ·rename_i hd;rw [if_neg hd]
     split at h
     ·cases h
     ·rename_i hd2;rw [if_neg hd2];exact ⟨⟨fun h=>by simp at h,fun h=>by simp at h,fun h=>by simp at h,fun h=>by simp at h,hsz _,hn⟩,by simp⟩
  rw [if_neg hL] at h ⊢
  by_cases hD:digitN s[i].toNat=true
  ·rw [if_pos hD] at h ⊢;unfold tokNum at h ⊢
   split at h
   ·rename_i hq;rw [if_pos hq];exact ⟨⟨fun h=>by simp at h,fun h=>by simp at h,fun h=>by simp at h,fun _=>hq,hsz _,hn⟩,by simp⟩
   ·cases h
  rw [if_neg hD] at h ⊢
  by_cases h37:s[i].toNat=37
  ·rw [if_pos h37] at h ⊢;unfold tokPat at h ⊢
   split at h
   ·rename_i hq;rw [if_pos hq];exact ⟨⟨fun h=>by simp at h,fun h=>by simp at h,fun _=>hq,fun h=>by simp at h,hsz _,hn⟩,by simp⟩
   ·cases h
  rw [if_neg h37] at h ⊢
  by_cases h34:s[i].toNat=34
  ·rw [if_pos h34] at h ⊢;unfold tokQuo at h ⊢
   split at h
   ·rename_i hq;exact absurd h hq
   ·rename_i hq;rw [if_neg hq]
    split at h
    ·cases h
    ·rename_i hq2;rw [if_neg hq2];exact ⟨⟨fun h=>by simp at h,fun h=>by simp at h,fun h=>by simp at h,fun h=>by simp at h,hsz _,hn⟩,by simp⟩
  rw [if_neg h34] at h ⊢;unfold tokSign at h ⊢
  split at h
  ·rename_i hq;rw [if_pos hq];exact ⟨⟨fun h=>by simp at h,fun h=>by simp at h,fun h=>by simp at h,fun h=>by simp at h,hsz _,hn⟩,by simp⟩
  ·rename_i hq;rw [if_neg hq]
   split at h
   ·rename_i hq2;rw [if_pos hq2];exact ⟨⟨fun h=>by simp at h,fun h=>by simp at h,fun h=>by simp at h,fun h=>by simp at h,hsz _,hn⟩,by simp⟩
   ·cases h
 ·unfold tokR at h;rw [show (bs s)[i]?=none from List.getElem?_eq_none (by rw [bs_length];omega)] at h
  cases h
theorem cutR_good (s:ByteArray)(no:Int)(hs:s.size≤16384)(hn:1≤no∧no≤16386):∀ (f i:Nat) (l l':List Tk),cutR s no f i l=.inl l'→(∀ t∈l,TokG t∧t.kind≠1∧t.line=no)→∀ t∈l',TokG t∧t.kind≠1∧t.line=no
 | 0,i,l,l',h,hl=>by unfold cutR at h;cases h;exact hl
 | f+1,i,l,l',h,hl=>by
   unfold cutR at h
   split at h
   ·split at h
    ·cases h;exact hl
    ·split at h
     ·exact cutR_good s no hs hn f _ l l' h hl
     ·split at h
      ·cases h
      ·rename_i he;refine cutR_good s no hs hn f _ _ l' h fun t ht=>?_
       rcases List.mem_append.1 ht with ht|ht
       ·exact hl t ht
       ·rw [List.mem_singleton] at ht;subst ht;have:=tokR_good s i (by simpa using he) no hs hn (colAt s i)
        exact ⟨this.1,this.2,rfl⟩
   ·cases h;exact hl
theorem lineR_good (s:ByteArray)(no:Int)(hs:s.size≤16384)(hn:1≤no∧no≤16386)(l:List Tk)(h:lineR s no=.inl l):(∀ t∈l,TokG t)∧Lined l:=by
 unfold lineR at h
 cases hc:cutR s no (s.size+1) 0 [] with
 | inr e=>rw [hc] at h;cases h
 | inl m=>
   rw [hc] at h;have hg:=cutR_good s no hs hn _ 0 [] m hc (fun t ht=>by simp at ht)
   simp only [lineOf,Sum.inl.injEq] at h
   split at h
   ·subst h;exact ⟨fun t ht=>by simp at ht,Lined.nil⟩
   ·subst h;have hE:TokG (endT s no):=⟨fun _=>rfl,fun h=>by simp [endT] at h,fun h=>by simp [endT] at h,fun h=>by simp [endT] at h,by show (1:Nat)≤16384;decide,hn⟩
    refine ⟨fun t ht=>?_,fun i t hi hk=>?_⟩
    ·rcases List.mem_append.1 ht with ht|ht
     ·exact (hg t ht).1
     ·rw [List.mem_singleton] at ht;subst ht;exact hE
    ·by_cases him:i<m.length
     ·rw [List.getElem?_append_left him] at hi;have ht:=(hg t (List.mem_of_getElem? hi)).2.2
      by_cases him2:i+1<m.length
      ·have hu:m[i+1]?=some m[i+1]:=List.getElem?_eq_getElem him2;exact ⟨m[i+1],by rw [List.getElem?_append_left him2];exact hu,(hg _ (List.mem_of_getElem? hu)).2.2.trans ht.symm⟩
      ·exact ⟨endT s no,by rw [List.getElem?_append_right (by omega),show i+1-m.length=0 by omega];rfl,ht.symm⟩
     ·have hlen:=(List.getElem?_eq_some_iff.1 hi).1;rw [List.length_append,List.length_singleton] at hlen;rw [List.getElem?_append_right (by omega),show i-m.length=0 by omega] at hi
      simp only [List.getElem?_cons_zero,Option.some.injEq] at hi;subst hi;exact absurd rfl hk
theorem scanL_good (s:ByteArray)(hs:s.size≤16384):∀ (f a:Nat) (no:Int) (acc l:List Tk),1≤no→no≤(a:Int)+1→scanL s f a no acc=.inl l→((∀ t∈acc,TokG t)∧Lined acc)→(∀ t∈l,TokG t)∧Lined l
 | 0,a,no,acc,l,_,_,h,hg=>by unfold scanL at h;cases h;exact hg
 | f+1,a,no,acc,l,h1,h2,h,hg=>by
   unfold scanL at h
   split at h
   ·rename_i ha
    split at h
    ·cases h
    ·rename_i m hm;have hm2:=lineR_good _ no (by rw [ByteArray.size_extract];omega) ⟨h1,by omega⟩ m hm
     refine scanL_good s hs f _ _ _ l (by omega) (by omega) h ⟨fun t ht=>?_,hg.2.append hm2.2⟩
     rcases List.mem_append.1 ht with ht|ht
     ·exact hg.1 t ht
     ·exact hm2.1 t ht
   ·cases h;exact hg
theorem scanR_good (s:ByteArray)(l:List Tk)(h:scanR s=.inl l):(∀ t∈l,TokG t)∧Lined l:=by
 unfold scanR at h
 split at h
 ·cases h
 ·rename_i hs;exact scanL_good s (by omega) _ 0 1 [] l (by omega) (by omega) h ⟨fun t ht=>by simp at ht,Lined.nil⟩
theorem lineLen_all:∀ (l:Bytes),(∀ c∈l,c.toNat≠10)→lineLen l=l.length
 | [],_=>rfl
 | c::r,h=>by
   have h1:=h c (by simp)
   have h2:=lineLen_all r (fun x hx=>h x (by simp [hx]))
   show (if c.toNat=10 then 0 else lineLen r+1)=_
   rw [if_neg h1,h2];rfl
theorem extract_all (s:ByteArray):s.extract 0 s.size=s:=by
 apply ByteArray.ext;rw [ByteArray.data_extract];exact Array.extract_size
theorem scan_alone (s:ByteArray)(k:Int)(h0:0<s.size)(hs:s.size≤16384)(hn:∀ c∈bs s,c.toNat≠10)(h35:s[0].toNat≠35)(hb:blankN s[0].toNat=false)(ht:tokR s 0=(k,s.size,0)) :
  scanR s=.inl [⟨k,s,1,colAt s 0⟩,endT s 1]:=by
 have hc:cutR s 1 (s.size+1) 0 []=.inl [⟨k,s,1,colAt s 0⟩]:=by
  unfold cutR;rw [dif_pos h0,if_neg h35,hb,if_neg (by decide),ht]
  dsimp only;rw [if_neg (by simp),extract_all]
  obtain ⟨n,hn⟩:∃ n,s.size=n+1:=⟨s.size-1,by omega⟩
  conv=>lhs;rw [hn]
  unfold cutR;rw [dif_neg (by omega)]
  rfl
 have hl:lineR s 1=.inl [⟨k,s,1,colAt s 0⟩,endT s 1]:=by
  unfold lineR;rw [hc];rfl
 unfold scanR;rw [if_neg (by omega)]
 unfold scanL;rw [if_pos (Nat.zero_le _),List.drop_zero,lineLen_all _ hn,bs_length,Nat.zero_add,extract_all,hl];dsimp only;unfold scanL;rw [if_neg (by omega)]
 rfl
def aloneK (s:ByteArray)(k:Int):Bool:=match scanR s with
 | .inr _=>false
 | .inl l=>decide (l.length=2) && (match l[0]? with
   | none=>false
   | some t=>t.kind == k && decide (t.text=s))
theorem alone_of {s:ByteArray}{k c:Int}(h:scanR s=.inl [⟨k,s,1,c⟩,endT s 1]):aloneK s k=true:=by
 unfold aloneK;rw [h];simp
theorem wordLen_full:∀ (l:Bytes),(∀ c∈l,wordU c=true)→wordLen l=l.length
 | [],_=>rfl
 | c::r,h=>by
   have h1:=h c (by simp)
   have h2:=wordLen_full r (fun x hx=>h x (by simp [hx]))
   show (if wordU c then wordLen r+1 else 0)=_
   rw [if_pos h1,h2];rfl
theorem nm_all:∀ (f:Bool)(l:Bytes),nm f l=true→∀ c∈l,wordU c=true
 | _,[],_,c,h=>by simp at h
 | f,c::r,h,x,hx=>by
   unfold nm at h
   split at h
   ·cases h
   ·rename_i hc;rcases List.mem_cons.1 hx with rfl|hx
    ·unfold wordU
     cases hl:letterU x<;>cases hd:digitU x<;>simp_all
    ·exact nm_all false r h x hx
theorem word_no {c:UInt8}(h:wordU c=true):c.toNat≠10:=by
 intro h10;unfold wordU letterU digitU at h;rw [h10] at h
 revert h;decide
theorem alone_name (s:ByteArray):aloneK s 2=isName (bs s):=by
 rw [Bool.eq_iff_iff];constructor
 ·intro h;unfold aloneK at h
  cases hr:scanR s with
  | inr x=>rw [hr] at h;cases h
  | inl l=>
    rw [hr] at h;dsimp only at h;have hg:=(scanR_good s l hr).1
    cases h0:l[0]? with
    | none=>rw [h0] at h;simp at h
    | some t=>
      rw [h0] at h;simp only [Bool.and_eq_true,beq_iff_eq,decide_eq_true_eq] at h;have:=(hg t (List.mem_of_getElem? h0)).2.1 h.2.1;rw [h.2.2] at this;exact this
 ·intro h
  have h1:1≤s.size∧s.size≤24∧nm true (bs s)=true:=by
   unfold isName at h;rw [bs_length] at h;simpa using h
  obtain ⟨h1,h2,h3⟩:=h1;have ha:=nm_all _ _ h3
  have hL:letterU s[0]=true:=by
   have hd:=bs_drop s 0 (by omega)
   rw [List.drop_zero] at hd;rw [hd] at h3;unfold nm at h3
   split at h3
   ·cases h3
   ·rename_i hc
    cases hl:letterU s[0]
    ·rw [hl] at hc;simp at hc
    ·rfl
  have hl2:letterN s[0].toNat=true:=hL
  have hr:runE s 0=s.size:=by
   unfold runE;rw [List.drop_zero,wordLen_full _ ha,bs_length];omega
  refine alone_of (scan_alone s 2 (by omega) (by omega) (fun c hc=>word_no (ha c hc)) (fun h=>by rw [h] at hl2;revert hl2;decide) ?_ ?_)
  ·cases hb:blankN s[0].toNat
   ·rfl
   ·unfold blankN at hb;unfold letterN at hl2;simp only [decide_eq_true_eq] at hb hl2;omega
  ·unfold tokR;rw [bs_at s 0 (by omega)]
   dsimp only;rw [if_pos hl2];unfold tokName tokNameJ;rw [hr,if_neg (by omega)]
   have:dotted s s.size=false:=by
    unfold dotted;rw [show (bs s)[s.size]?=none from List.getElem?_eq_none (by rw [bs_length];omega)]
   rw [this,if_pos rfl]
theorem trit_word {c:UInt8}(h:trit c=true):wordU c=true:=by
 unfold trit at h;unfold wordU letterU digitU letterN digitN;simp only [Bool.or_eq_true,beq_iff_eq] at h;simp only [Bool.or_eq_true,decide_eq_true_eq];omega
theorem alone_pat (s:ByteArray):aloneK s 5=isPatR (bs s):=by
 rw [Bool.eq_iff_iff];constructor
 ·intro h;unfold aloneK at h
  cases hr:scanR s with
  | inr x=>rw [hr] at h;cases h
  | inl l=>
    rw [hr] at h;dsimp only at h;have hg:=(scanR_good s l hr).1
    cases h0:l[0]? with
    | none=>rw [h0] at h;simp at h
    | some t=>
      rw [h0] at h;simp only [Bool.and_eq_true,beq_iff_eq,decide_eq_true_eq] at h;have:=(hg t (List.mem_of_getElem? h0)).2.2.1 h.2.1;rw [h.2.2] at this;exact this
 ·intro h;have hp:=h
  have h0:0<s.size:=by
   rw [← bs_length]
   cases hb:bs s with
   | nil=>rw [hb] at h;cases h
   | cons c r=>simp
  have hd:=bs_drop s 0 h0;rw [List.drop_zero] at hd;rw [hd] at h;simp only [isPatR,patS,Bool.and_eq_true,beq_iff_eq,List.all_eq_true,decide_eq_true_eq] at h;obtain ⟨h37,ht,_,h32⟩:=h;rw [List.length_drop,bs_length] at h32;have hw:∀ c∈(bs s).drop 1,wordU c=true:=fun c hc=>trit_word (ht c hc)
  have hr:runE s 1=s.size:=by
   unfold runE;rw [wordLen_full _ hw,List.length_drop,bs_length];omega
  refine alone_of (scan_alone s 5 h0 (by omega) (fun c hc=>?_) (by omega) (by rw [h37];decide) ?_)
  ·rw [hd] at hc;rcases List.mem_cons.1 hc with rfl|hc
   ·omega
   ·exact word_no (hw c hc)
  ·unfold tokR;rw [bs_at s 0 h0];dsimp only;rw [h37];rw [if_neg (by decide),if_neg (by decide),if_pos rfl]
   unfold tokPat;rw [show (0:Nat)+1=1 from rfl,hr,extract_all,if_pos hp]
def letL:Bytes→Bool
 | []=>false
 | c::_=>letterU c
def nameEnd (r:Bytes):Option Bytes:=
 match r.drop (wordLen r) with
 | []=>if wordLen r≤24 then some [] else none
 | c::q=>if (c.toNat == 46 && letL q)=true then (if wordLen r≤24∧wordLen q≤24 then some (q.drop (wordLen q)) else none)
   else if wordLen r≤24 then some (c::q) else none
def sufU (c:UInt8):Bool:=c.toNat == 42 || c.toNat == 43 || c.toNat == 63
def mac:Nat→Bytes→Nat→Nat→Bool→Bool
 | 0,_,_,_,_=>false
 | _+1,[],_,d,_=>d == 0
 | f+1,c::r,it,d,ne=>
   if c.toNat=32 then mac f r it d ne
   else if c.toNat=40 then (if 32≤d then false else mac f r it (d+1) false)
   else if c.toNat=41 then (if d=0 then false else mac f r it (d-1) true)
   else if sufU c=true then (if ne=false then false else if 48≤it then false else mac f r (it+1) d true)
   else if c.toNat=124 then (if 48≤it then false else mac f r (it+1) d false)
   else if c.toNat=46 then (if 48≤it then false else mac f r (it+1) d true)
   else if c.toNat=33 then (if 48≤it then false else if letL r=false then false else match nameEnd r with
    | none=>false
    | some q=>mac f q (it+1) d true)
   else if letterU c=false then false else if 48≤it then false else match nameEnd (c::r) with
    | none=>false
    | some q=>mac f q (it+1) d true
def patM (l:Bytes):Bool:=mac (l.length+1) l 0 0 false
inductive PMd where|pat|patT|line|suf|atom
def peekS (r:Bytes):Bytes:=r.dropWhile (fun c=>c.toNat == 32)
def des:Nat→PMd→Bytes→Nat→Nat→Option (Bytes×Nat)
 | 0,_,_,_,_=>none
 | f+1,.pat,r,it,d=>match des f .line r it d with
   | none=>none
   | some q=>des f .patT q.1 q.2 d
 | f+1,.patT,r,it,d=>match peekS r with
   | []=>some ([],it)
   | c::r2=>if c.toNat=124 then (if 48≤it then none else match des f .line r2 (it+1) d with
     | none=>none
     | some q=>des f .patT q.1 q.2 d)
    else some (c::r2,it)
 | f+1,.line,r,it,d=>match peekS r with
   | []=>some ([],it)
   | c::r2=>if c.toNat=124∨c.toNat=41 then some (c::r2,it) else match des f .atom (c::r2) it d with
     | none=>none
     | some q=>match des f .suf q.1 q.2 d with
       | none=>none
       | some u=>des f .line u.1 u.2 d
 | f+1,.suf,r,it,d=>match peekS r with
   | []=>some ([],it)
   | c::r2=>if sufU c=true then (if 48≤it then none else des f .suf r2 (it+1) d) else some (c::r2,it)
 | f+1,.atom,r,it,d=>match r with
   | []=>none
   | c::r2=>
     if c.toNat=46 then (if 48≤it then none else some (r2,it+1))
     else if letterU c=true then (if 48≤it then none else match nameEnd (c::r2) with
      | none=>none
      | some q=>some (q,it+1))
     else if c.toNat=33 then (if 48≤it then none else if letL r2=false then none else match nameEnd r2 with
      | none=>none
      | some q=>some (q,it+1))
     else if c.toNat=40 then (if 32≤d then none else match des f .pat r2 it (d+1) with
      | none=>none
      | some q=>match peekS q.1 with
        | []=>none
        | c2::r3=>if c2.toNat=41 then some (r3,q.2) else none)
     else none
def patD (l:Bytes):Bool:=match des (4*l.length+4) .pat l 0 0 with
 | none=>false
 | some q=>q.1.isEmpty
theorem nameEnd_len {r q:Bytes}(h:nameEnd r=some q):q.length≤r.length-wordLen r:=by
 unfold nameEnd at h;have hl:=List.length_drop (i:=wordLen r) (l:=r)
 split at h
 ·split at h
  ·cases h;simp
  ·cases h
 ·rename_i c t hd;rw [hd] at hl
  split at h
  ·split at h
   ·cases h;rw [List.length_drop];simp only [List.length_cons] at hl;omega
   ·cases h
  ·split at h
   ·cases h;rw [hl];exact Nat.le_refl _
   ·cases h
theorem wordLen_one {c:UInt8}{r:Bytes}(h:letterU c=true):1≤wordLen (c::r):=by
 unfold wordLen;rw [if_pos (by unfold wordU;rw [h];rfl)];omega
theorem letL_cons {r:Bytes}(h:letL r=true):∃ c q,r=c::q∧letterU c=true:=by
 cases r with
 | nil=>cases h
 | cons c q=>exact ⟨c,q,rfl,h⟩
theorem nameEnd_lt {r q:Bytes}(hl:letL r=true)(h:nameEnd r=some q):q.length<r.length:=by
 obtain ⟨c,t,rfl,hc⟩:=letL_cons hl;have:=nameEnd_len h;have:=wordLen_one (r:=t) hc;simp only [List.length_cons] at *;omega
theorem mac_fuel:∀ (f g:Nat)(r:Bytes)(it d:Nat)(ne:Bool),r.length<f→r.length<g→mac f r it d ne=mac g r it d ne:=by
 intro f
 induction f with
 | zero=>intro g r it d ne h;omega
 | succ f ih=>
   intro g r it d ne h hg
   cases g with
   | zero=>omega
   | succ g=>
     cases r with
     | nil=>rfl
     | cons c r=>
       have e:∀ q it d ne,q.length≤r.length→mac f q it d ne=mac g q it d ne:=fun q it d ne hq=>ih g q it d ne (by simp only [List.length_cons] at h;omega) (by simp only [List.length_cons] at hg;omega)
       unfold mac;rw [e r it d ne (Nat.le_refl _),e r it (d+1) false (Nat.le_refl _),e r it (d-1) true (Nat.le_refl _),e r (it+1) d true (Nat.le_refl _),e r (it+1) d false (Nat.le_refl _)]
       have h1:letL r=true→(match nameEnd r with|none=>false|some q=>mac f q (it+1) d true)=(match nameEnd r with|none=>false|some q=>mac g q (it+1) d true):=by
        intro hl
        cases hn:nameEnd r with
        | none=>rfl
        | some q=>exact e q _ _ _ (Nat.le_of_lt (nameEnd_lt hl hn))
       have h2:letterU c=true→(match nameEnd (c::r) with|none=>false|some q=>mac f q (it+1) d true)=(match nameEnd (c::r) with|none=>false|some q=>mac g q (it+1) d true):=by
        intro hl
        cases hn:nameEnd (c::r) with
        | none=>rfl
        | some q=>exact e q _ _ _ (by have:=nameEnd_lt (r:=c::r) hl hn;simp only [List.length_cons] at this;omega)
       by_cases a1:letL r=true
       ·rw [h1 a1]
        by_cases a2:letterU c=true
        ·rw [h2 a2]
        ·rw [if_pos (show letterU c=false by simpa using a2),if_pos (show letterU c=false by simpa using a2)]
       ·rw [if_pos (show letL r=false by simpa using a1),if_pos (show letL r=false by simpa using a1)]
        by_cases a2:letterU c=true
        ·rw [h2 a2]
        ·rw [if_pos (show letterU c=false by simpa using a2),if_pos (show letterU c=false by simpa using a2)]
def mM (r:Bytes)(it d:Nat)(ne:Bool):Bool:=mac (r.length+1) r it d ne
theorem mM_of (f:Nat)(r:Bytes)(it d:Nat)(ne:Bool)(h:r.length<f):mac f r it d ne=mM r it d ne:=mac_fuel _ _ _ _ _ _ h (Nat.lt_succ_self _)
theorem mM_nil (it d:Nat)(ne:Bool):mM [] it d ne=(d == 0):=rfl
theorem mM_cons (c:UInt8)(r:Bytes)(it d:Nat)(ne:Bool):mM (c::r) it d ne =
  (if c.toNat=32 then mM r it d ne
  else if c.toNat=40 then (if 32≤d then false else mM r it (d+1) false)
  else if c.toNat=41 then (if d=0 then false else mM r it (d-1) true)
  else if sufU c=true then (if ne=false then false else if 48≤it then false else mM r (it+1) d true)
  else if c.toNat=124 then (if 48≤it then false else mM r (it+1) d false)
  else if c.toNat=46 then (if 48≤it then false else mM r (it+1) d true)
  else if c.toNat=33 then (if 48≤it then false else if letL r=false then false else match nameEnd r with
   | none=>false
   | some q=>mM q (it+1) d true)
  else if letterU c=false then false else if 48≤it then false else match nameEnd (c::r) with
   | none=>false
   | some q=>mM q (it+1) d true):=by
 have e0:∀ it d ne,mac (r.length+1) r it d ne=mM r it d ne:=fun _ _ _=>rfl
 show mac ((r.length+1)+1) (c::r) it d ne=_
 unfold mac;simp only [e0]
 have h1:letL r=true→(match nameEnd r with|none=>false|some q=>mac (r.length+1) q (it+1) d true)=(match nameEnd r with|none=>false|some q=>mM q (it+1) d true):=by
  intro hl
  cases hn:nameEnd r with
  | none=>rfl
  | some q=>exact mM_of _ _ _ _ _ (by have:=nameEnd_lt hl hn;omega)
 have h2:letterU c=true→(match nameEnd (c::r) with|none=>false|some q=>mac (r.length+1) q (it+1) d true)=(match nameEnd (c::r) with|none=>false|some q=>mM q (it+1) d true):=by
  intro hl
  cases hn:nameEnd (c::r) with
  | none=>rfl
  | some q=>exact mM_of _ _ _ _ _ (by have:=nameEnd_lt (r:=c::r) hl hn;simp only [List.length_cons] at this;omega)
 by_cases a1:letL r=true
 ·rw [h1 a1]
  by_cases a2:letterU c=true
  ·rw [h2 a2]
  ·rw [if_pos (show letterU c=false by simpa using a2),if_pos (show letterU c=false by simpa using a2)]
 ·rw [if_pos (show letL r=false by simpa using a1),if_pos (show letL r=false by simpa using a1)]
  by_cases a2:letterU c=true
  ·rw [h2 a2]
  ·rw [if_pos (show letterU c=false by simpa using a2),if_pos (show letterU c=false by simpa using a2)]
theorem mM_peek (r:Bytes)(it d:Nat)(ne:Bool):mM (peekS r) it d ne=mM r it d ne:=by
 induction r with
 | nil=>rfl
 | cons c r ih=>
   unfold peekS at ih ⊢;rw [List.dropWhile_cons]
   by_cases h:c.toNat=32
   ·rw [if_pos (by rw [h];rfl),ih,mM_cons,if_pos h]
   ·rw [if_neg (by simpa using h)]
theorem peek_len (r:Bytes):(peekS r).length≤r.length:=by
 unfold peekS;exact (List.dropWhile_sublist _).length_le
theorem peek_head {r:Bytes}{c:UInt8}{q:Bytes}(h:peekS r=c::q):c.toNat≠32:=by
 unfold peekS at h;have:=List.head?_dropWhile_not (fun c:UInt8=>c.toNat == 32) r
 rw [h] at this
 simpa using this
def stops (r:Bytes):Prop:=r=[]∨∃ c q,r=c::q∧(c.toNat=124∨c.toNat=41)
def endsP (r:Bytes):Prop:=r=[]∨∃ c q,r=c::q∧c.toNat=41
def kM:PMd→Nat|.pat=>4|.patT=>1|.line=>3|.suf=>1|.atom=>2
def goodP:PMd→Bytes→Bool→Prop
 | .pat,_,ne=>ne=false
 | .patT,r,_=>stops r
 | .line,_,ne=>ne=false
 | .suf,_,ne=>ne=true
 | .atom,r,ne=>∃ c q,r=c::q∧c.toNat≠32∧c.toNat≠124∧c.toNat≠41∧(sufU c=true→ne=false)
def postP:PMd→Bytes→Bytes→Prop
 | .pat,r,q=>q.length≤r.length∧endsP q
 | .patT,r,q=>q.length≤r.length∧endsP q
 | .line,r,q=>q.length≤r.length∧stops q
 | .suf,r,q=>q.length≤r.length∧(q=[]∨∃ c t,q=c::t∧sufU c=false∧c.toNat≠32)
 | .atom,r,q=>q.length<r.length
def neP:PMd→Bool|.suf=>true|.atom=>true|_=>false
theorem nosuf_ne {r:Bytes}(h:r=[]∨∃ c t,r=c::t∧sufU c=false∧c.toNat≠32)(it d:Nat)(a b:Bool):mM r it d a=mM r it d b:=by
 rcases h with rfl|⟨c,q,rfl,h2,h3⟩
 ·rfl
 ·rw [mM_cons,mM_cons,if_neg h3,if_neg h3,h2]
  rfl
theorem stops_ne {r:Bytes}(h:stops r)(it d:Nat)(a b:Bool):mM r it d a=mM r it d b:=by
 refine nosuf_ne ?_ _ _ _ _;rcases h with rfl|⟨c,q,rfl,h⟩
 ·exact .inl rfl
 ·exact .inr ⟨c,q,rfl,by unfold sufU;rcases h with h|h<;>rw [h]<;>rfl,by omega⟩
theorem des_mac:∀ (f:Nat)(m:PMd)(r:Bytes)(it d:Nat)(ne:Bool),4*r.length+kM m≤f→goodP m r ne →
  match des f m r it d with
  | none=>mM r it d ne=false
  | some q=>postP m r q.1∧mM r it d ne=mM q.1 q.2 d (neP m):=by
 intro f
 induction f with
 | zero=>intro m r it d ne h;cases m<;>simp [kM] at h
 | succ f ih=>
   intro m r it d ne hf hg
   cases m with
   | pat=>
     have hne:ne=false:=hg;subst hne;simp only [kM] at hf;have h1:=ih .line r it d false (by simp only [kM];omega) rfl
     unfold des
     cases hd:des f .line r it d with
     | none=>rw [hd] at h1;exact h1
     | some q=>
       rw [hd] at h1;obtain ⟨⟨p1,p2⟩,e1⟩:=h1;have h2:=ih .patT q.1 q.2 d false (by simp only [kM];omega) p2
       dsimp only at h2 ⊢
       cases hd2:des f .patT q.1 q.2 d with
       | none=>rw [hd2] at h2;exact e1.trans h2
       | some u=>rw [hd2] at h2;exact ⟨⟨Nat.le_trans h2.1.1 p1,h2.1.2⟩,e1.trans h2.2⟩
   | patT=>
     have hs:stops r:=hg
     have hk:peekS r=r:=by
      rcases hs with rfl|⟨c,q,rfl,h⟩
      ·rfl
      ·unfold peekS;rw [List.dropWhile_cons,if_neg (by rcases h with h|h<;>rw [h]<;>decide)]
     simp only [kM] at hf;unfold des;rw [hk];rcases hs with rfl|⟨c,q,rfl,h⟩
     ·exact ⟨⟨Nat.le_refl _,.inl rfl⟩,rfl⟩
     ·dsimp only;simp only [List.length_cons] at hf
      by_cases h124:c.toNat=124
      ·rw [if_pos h124]
       have em:mM (c::q) it d ne=(if 48≤it then false else mM q (it+1) d false):=by
        have h2:sufU c=false:=by unfold sufU;rw [h124];rfl
        rw [mM_cons,if_neg (by omega),if_neg (by omega),if_neg (by omega),h2,if_neg (by decide),if_pos h124]
       by_cases h48:48≤it
       ·rw [if_pos h48];rw [if_pos h48] at em;exact em
       ·rw [if_neg h48];rw [if_neg h48] at em;have h1:=ih .line q (it+1) d false (by simp only [kM];omega) rfl
        cases hd:des f .line q (it+1) d with
        | none=>rw [hd] at h1;exact em.trans h1
        | some u=>
          rw [hd] at h1;obtain ⟨⟨p1,p2⟩,e1⟩:=h1;have h2:=ih .patT u.1 u.2 d false (by simp only [kM];omega) p2
          dsimp only at h2 ⊢
          cases hd2:des f .patT u.1 u.2 d with
          | none=>rw [hd2] at h2;exact em.trans (e1.trans h2)
          | some v=>rw [hd2] at h2;exact ⟨⟨by have:=h2.1.1;simp only [List.length_cons];omega,h2.1.2⟩,em.trans (e1.trans h2.2)⟩
      ·rw [if_neg h124];have h41:c.toNat=41:=by omega
       exact ⟨⟨Nat.le_refl _,.inr ⟨c,q,rfl,h41⟩⟩,stops_ne (.inr ⟨c,q,rfl,h⟩) _ _ _ _⟩
   | line=>
     have hne:ne=false:=hg;subst hne;simp only [kM] at hf;have hpl:=peek_len r;rw [← mM_peek r];unfold des
     cases hp:peekS r with
     | nil=>exact ⟨⟨Nat.zero_le _,.inl rfl⟩,rfl⟩
     | cons c q=>
       rw [hp] at hpl;have hb:=peek_head hp;dsimp only
       by_cases hst:c.toNat=124∨c.toNat=41
       ·rw [if_pos hst];exact ⟨⟨hpl,.inr ⟨c,q,rfl,hst⟩⟩,rfl⟩
       ·rw [if_neg hst];have h1:=ih .atom (c::q) it d false (by simp only [kM];omega) ⟨c,q,rfl,hb,fun h=>hst (.inl h),fun h=>hst (.inr h),fun _=>rfl⟩
        cases hd:des f .atom (c::q) it d with
        | none=>rw [hd] at h1;exact h1
        | some u=>
          rw [hd] at h1;obtain ⟨p1,e1⟩:=h1;have p1:u.1.length<(c::q).length:=p1;have h2:=ih .suf u.1 u.2 d true (by simp only [kM];omega) rfl
          dsimp only at h2 ⊢
          cases hd2:des f .suf u.1 u.2 d with
          | none=>rw [hd2] at h2;exact e1.trans h2
          | some v=>
            rw [hd2] at h2;obtain ⟨⟨p2,p3⟩,e2⟩:=h2;have h3:=ih .line v.1 v.2 d false (by simp only [kM];omega) rfl
            have e3:mM v.1 v.2 d true=mM v.1 v.2 d false:=nosuf_ne p3 _ _ _ _;dsimp only at h3 ⊢
            cases hd3:des f .line v.1 v.2 d with
            | none=>rw [hd3] at h3;exact e1.trans (e2.trans (e3.trans h3))
            | some x=>rw [hd3] at h3;exact ⟨⟨by have:=h3.1.1;simp only [List.length_cons] at *;omega,h3.1.2⟩,e1.trans (e2.trans (e3.trans h3.2))⟩
   | suf=>
     have hne:ne=true:=hg;subst hne;simp only [kM] at hf;have hpl:=peek_len r;rw [← mM_peek r];unfold des
     cases hp:peekS r with
     | nil=>exact ⟨⟨Nat.zero_le _,.inl rfl⟩,rfl⟩
     | cons c q=>
       rw [hp] at hpl;have hb:=peek_head hp;dsimp only
       by_cases hs:sufU c=true
       ·rw [if_pos hs]
        have em:mM (c::q) it d true=(if 48≤it then false else mM q (it+1) d true):=by
         have hs2:=hs;unfold sufU at hs2;simp only [Bool.or_eq_true,beq_iff_eq] at hs2;rw [mM_cons,if_neg hb,if_neg (by omega),if_neg (by omega),if_pos hs,if_neg (by decide)]
        by_cases h48:48≤it
        ·rw [if_pos h48];rw [if_pos h48] at em;exact em
        ·rw [if_neg h48];rw [if_neg h48] at em;simp only [List.length_cons] at hpl;have h1:=ih .suf q (it+1) d true (by simp only [kM];omega) rfl
         cases hd:des f .suf q (it+1) d with
         | none=>rw [hd] at h1;exact em.trans h1
         | some u=>rw [hd] at h1;exact ⟨⟨by have:=h1.1.1;omega,h1.1.2⟩,em.trans h1.2⟩
       ·rw [if_neg hs];exact ⟨⟨hpl,.inr ⟨c,q,rfl,by simpa using hs,hb⟩⟩,rfl⟩
   | atom=>
     obtain ⟨c,q,rfl,h32,h124,h41,hsf⟩:=hg;simp only [kM,List.length_cons] at hf;unfold des;dsimp only;have em:=mM_cons c q it d ne;rw [if_neg h32] at em
     by_cases h46:c.toNat=46
     ·have hs2:sufU c=false:=by unfold sufU;rw [h46];rfl
      rw [if_pos h46];rw [if_neg (by omega),if_neg h41,hs2,if_neg (by decide),if_neg h124,if_pos h46] at em
      by_cases h48:48≤it
      ·rw [if_pos h48];rw [if_pos h48] at em;exact em
      ·rw [if_neg h48];rw [if_neg h48] at em;exact ⟨Nat.lt_succ_self _,em⟩
     rw [if_neg h46]
     by_cases hl:letterU c=true
     ·have hln:c.toNat=95∨(97≤c.toNat∧c.toNat≤122)∨(65≤c.toNat∧c.toNat≤90):=by
       unfold letterU letterN at hl;simpa using hl
      have hs2:sufU c=false:=by unfold sufU;simp;omega
      rw [if_pos hl];rw [if_neg (by omega),if_neg h41,hs2,if_neg (by decide),if_neg h124,if_neg h46,if_neg (by omega),hl,if_neg (by decide)] at em
      by_cases h48:48≤it
      ·rw [if_pos h48];rw [if_pos h48] at em;exact em
      ·rw [if_neg h48];rw [if_neg h48] at em
       cases hn:nameEnd (c::q) with
       | none=>rw [hn] at em;exact em
       | some u=>rw [hn] at em;exact ⟨nameEnd_lt (r:=c::q) hl hn,em⟩
     rw [if_neg hl];have hl:letterU c=false:=by simpa using hl
     by_cases h33:c.toNat=33
     ·have hs2:sufU c=false:=by unfold sufU;rw [h33];rfl
      rw [if_pos h33];rw [if_neg (by omega),if_neg h41,hs2,if_neg (by decide),if_neg h124,if_neg h46,if_pos h33] at em
      by_cases h48:48≤it
      ·rw [if_pos h48];rw [if_pos h48] at em;exact em
      ·rw [if_neg h48];rw [if_neg h48] at em
       by_cases hL:letL q=false
       ·rw [if_pos hL];rw [if_pos hL] at em;exact em
       ·rw [if_neg hL];rw [if_neg hL] at em
        cases hn:nameEnd q with
        | none=>rw [hn] at em;exact em
        | some u=>rw [hn] at em;exact ⟨by have:=nameEnd_lt (by simpa using hL) hn;show u.length<(c::q).length;simp only [List.length_cons];omega,em⟩
     rw [if_neg h33]
     by_cases h40:c.toNat=40
     ·rw [if_pos h40];rw [if_pos h40] at em
      by_cases h32:32≤d
      ·rw [if_pos h32];rw [if_pos h32] at em;exact em
      ·rw [if_neg h32];rw [if_neg h32] at em;have h1:=ih .pat q it (d+1) false (by simp only [kM];omega) rfl
       cases hd:des f .pat q it (d+1) with
       | none=>rw [hd] at h1;exact em.trans h1
       | some u=>
         rw [hd] at h1;obtain ⟨⟨p1,p2⟩,e1⟩:=h1;have e1:mM q it (d+1) false=mM u.1 u.2 (d+1) false:=e1;rw [← mM_peek u.1] at e1;dsimp only;rcases p2 with p2|⟨c2,t2,p2,p3⟩
         ·rw [p2] at e1 ⊢;exact em.trans e1
         ·have hk:peekS (c2::t2)=c2::t2:=by
           unfold peekS;rw [List.dropWhile_cons,if_neg (by rw [p3];decide)]
          rw [p2,hk] at e1;rw [p2,hk];dsimp only;rw [if_pos p3];rw [p2] at p1;refine ⟨by show t2.length<(c::q).length;simp only [List.length_cons] at *;omega,?_⟩
          rw [em,e1,mM_cons,if_neg (by omega),if_neg (by omega),if_pos p3,if_neg (by omega)]
          rfl
     rw [if_neg h40];rw [if_neg h40,if_neg h41] at em
     show mM (c::q) it d ne=false
     rw [em]
     by_cases hs:sufU c=true
     ·rw [if_pos hs,if_pos (hsf hs)]
     ·rw [if_neg hs,if_neg h124,if_neg h46,if_neg h33,if_pos hl]
theorem pats_same (l:Bytes):patM l=patD l:=by
 have h:=des_mac (4*l.length+4) .pat l 0 0 false (Nat.le_refl _) rfl;unfold patM patD
 cases hd:des (4*l.length+4) .pat l 0 0 with
 | none=>rw [hd] at h;exact h
 | some q=>
   rw [hd] at h;obtain ⟨⟨_,p2⟩,e⟩:=h;refine e.trans ?_
   show _=List.isEmpty q.1
   rcases p2 with p2|⟨c,t,p2,p3⟩
   ·rw [p2];rfl
   ·rw [p2,mM_cons,if_neg (by omega),if_neg (by omega),if_pos p3,if_pos rfl];rfl
def lnOf (l:List Tk)(i:Nat):Int:=match l[i]? with
 | none=>0
 | some t=>t.line
def Stays (l:List Tk)(i j:Nat):Prop:=i≤j∧j<l.length∧lnOf l j=lnOf l i
theorem Stays.refl {l:List Tk}{i:Nat}(h:i<l.length):Stays l i i:=⟨Nat.le_refl _,h,rfl⟩
theorem Stays.trans {l:List Tk}{i j k:Nat}(h:Stays l i j)(h2:Stays l j k):Stays l i k:=⟨Nat.le_trans h.1 h2.1,h2.2.1,h2.2.2.trans h.2.2⟩
theorem Stays.step {l:List Tk}(hl:Lined l){i:Nat}{k:Int}(h:kindIs l i k=true)(hk:k≠1):Stays l i (i+1):=by
 unfold kindIs at h
 cases ht:l[i]? with
 | none=>rw [ht] at h;cases h
 | some t=>
   rw [ht] at h;have h:t.kind=k:=by simpa using h
   obtain ⟨u,hu,e⟩:=hl i t ht (by rw [h];exact hk)
   exact ⟨by omega,(List.getElem?_eq_some_iff.1 hu).1,by unfold lnOf;rw [hu,ht];exact e⟩
theorem sgn_kind {l:List Tk}{i:Nat}{s:ByteArray}(h:sgn l i s=true):kindIs l i 7=true:=by
 unfold sgn at h;unfold kindIs
 cases ht:l[i]? with
 | none=>rw [ht] at h;cases h
 | some t=>rw [ht] at h;simp only [Bool.and_eq_true] at h;exact h.1
theorem word_kind {l:List Tk}{i:Nat}(h:wordAt l i=true):kindIs l i 2=true:=by
 unfold wordAt at h;rw [Bool.and_eq_true] at h;exact h.1
theorem op_kind {l:List Tk}{i:Nat}(h:opS l i≠0):kindIs l i 7=true:=by
 unfold opS at h
 split at h;· exact sgn_kind (by assumption)
 split at h;· exact sgn_kind (by assumption)
 split at h;· exact sgn_kind (by assumption)
 split at h;· exact sgn_kind (by assumption)
 split at h;· exact sgn_kind (by assumption)
 split at h;· exact sgn_kind (by assumption)
 ·exact absurd rfl h
theorem num_at {l:List Tk}{d:Ds}{v:Int×Ds}(h:d.num l=some v):kindIs l d.at_ 4=true∧v.2.at_=d.at_+1:=by
 unfold Ds.num at h
 split at h
 ·cases h
 ·rename_i hk
  split at h
  ·cases h
  ·cases h;exact ⟨by simpa using hk,rfl⟩
theorem dtest_in {l:List Tk}(hl:Lined l){d:Ds}(hd:d.at_<l.length)(name:ByteArray):Stays l d.at_ (d.test l name).2.at_:=by
 unfold Ds.test
 split
 ·exact Stays.refl hd
 ·rename_i hop;have s1:Stays l d.at_ (d.at_+1):=Stays.step hl (op_kind hop) (by decide)
  dsimp only
  split
  ·rename_i hp;exact s1.trans (Stays.step hl hp.2.1 (by decide))
  ·cases hn:Ds.num { d with at_:=d.at_+1 } l with
   | none=>exact s1
   | some v=>
     have hv:=num_at hn;have s2:Stays l (d.at_+1) (d.at_+1+1):=Stays.step hl hv.1 (by decide)
     have hva:v.2.at_=d.at_+1+1:=hv.2;rw [← hva] at s2;dsimp only
     split
     ·rename_i hs;have s3:Stays l v.2.at_ (v.2.at_+1):=Stays.step hl (sgn_kind hs.2) (by decide)
      cases hu:Ds.num { v.2 with at_:=v.2.at_+1 } l with
      | none=>exact s1.trans (s2.trans s3)
      | some u=>
        have hw:=num_at hu;have s4:Stays l (v.2.at_+1) (v.2.at_+1+1):=Stays.step hl hw.1 (by decide)
        have hwa:u.2.at_=v.2.at_+1+1:=hw.2;rw [← hwa] at s4;exact s1.trans (s2.trans (s3.trans s4))
     ·split
      ·rename_i hs;have s3:Stays l v.2.at_ (v.2.at_+1):=Stays.step hl (sgn_kind hs.2) (by decide)
       cases hu:Ds.num { v.2 with at_:=v.2.at_+1 } l with
       | none=>exact s1.trans (s2.trans s3)
       | some u=>
         have hw:=num_at hu;have s4:Stays l (v.2.at_+1) (v.2.at_+1+1):=Stays.step hl hw.1 (by decide)
         have hwa:u.2.at_=v.2.at_+1+1:=hw.2;rw [← hwa] at s4;exact s1.trans (s2.trans (s3.trans s4))
      ·exact s1.trans s2
theorem dsc_in {l:List Tk}(hl:Lined l):∀ (f:Nat) (m:Md) (d:Ds),d.at_<l.length→Stays l d.at_ (dsc l f m d).2.at_:=by
 intro f
 induction f with
 | zero=>intro m d hd;exact Stays.refl hd
 | succ f ih=>
   intro m d hd
   cases m with
   | fac=>
     unfold dsc
     split
     ·rename_i hs;have s1:=Stays.step hl (sgn_kind hs) (by decide)
      split
      ·exact Stays.refl hd
      ·split
       ·exact Stays.refl hd
       ·have s2:=s1.trans (ih .fac { d with at_:=d.at_+1,made:=d.made+1,opn:=d.opn+1 } s1.2.1);dsimp only
        split
        ·exact s2
        ·exact s2
     ·split
      ·rename_i hs;have s1:=Stays.step hl (sgn_kind hs) (by decide)
       split
       ·exact Stays.refl hd
       ·have s2:=s1.trans (ih .or { d with at_:=d.at_+1,opn:=d.opn+1 } s1.2.1);dsimp only
        split
        ·split
         ·exact s2
         ·rename_i hc;exact s2.trans (Stays.step hl (sgn_kind (by simpa using hc)) (by decide))
        ·exact s2
      ·split
       ·exact Stays.refl hd
       ·rename_i hw;have s1:=Stays.step hl (word_kind (by simpa using hw)) (by decide)
        split
        ·exact Stays.refl hd
        ·split
         ·exact s1
         ·split
          ·exact s1
          ·exact s1.trans (dtest_in hl (d:={ d with at_:=d.at_+1,made:=d.made+1 }) s1.2.1 _)
   | and=>
     unfold dsc;have s1:=ih .fac d hd
     split
     ·exact s1.trans (ih .andT _ s1.2.1)
     ·exact s1
   | or=>
     unfold dsc;have s1:=ih .and d hd
     split
     ·exact s1.trans (ih .orT _ s1.2.1)
     ·exact s1
   | andT=>
     unfold dsc
     split
     ·rename_i hs;have s1:=Stays.step hl (sgn_kind hs) (by decide)
      split
      ·exact Stays.refl hd
      ·have s2:=s1.trans (ih .fac { d with at_:=d.at_+1,made:=d.made+1 } s1.2.1);dsimp only
       split
       ·exact s2.trans (ih .andT (Ds.put (dsc l f .fac { d with at_:=d.at_+1,made:=d.made+1 }).2 (Nd.of 5)) s2.2.1)
       ·exact s2
     ·exact Stays.refl hd
   | orT=>
     unfold dsc
     split
     ·rename_i hs;have s1:=Stays.step hl (sgn_kind hs) (by decide)
      split
      ·exact Stays.refl hd
      ·have s2:=s1.trans (ih .and { d with at_:=d.at_+1,made:=d.made+1 } s1.2.1);dsimp only
       split
       ·exact s2.trans (ih .orT (Ds.put (dsc l f .and { d with at_:=d.at_+1,made:=d.made+1 }).2 (Nd.of 6)) s2.2.1)
       ·exact s2
     ·exact Stays.refl hd
theorem read_in {l:List Tk}(hl:Lined l){i:Nat}(hi:i<l.length):Stays l i (readD l i).2.1:=by
 have:=dsc_in hl (dscFuel l) .or ⟨i,[],0,0,0⟩ hi;unfold readD;dsimp only
 split
 ·exact this
 ·exact this
structure AskS where
 kind:Int
 src:ByteArray
 dst:ByteArray
 cond:List Nd
 along:ByteArray
 sets:List (ByteArray×Int)
 hops:Int
abbrev AskS.of (k:Int):AskS:=⟨k,⟨#[]⟩,⟨#[]⟩,[],⟨#[]⟩,[],0⟩
def isT (l:List Tk)(i:Nat)(k:Int)(s:ByteArray):Bool:=match l[i]? with
 | none=>false
 | some t=>t.kind == k && decide (t.text=s)
theorem isT_kind {l:List Tk}{i:Nat}{k:Int}{s:ByteArray}(h:isT l i k s=true):kindIs l i k=true:=by
 unfold isT at h;unfold kindIs
 cases ht:l[i]? with
 | none=>rw [ht] at h;cases h
 | some t=>rw [ht] at h;simp only [Bool.and_eq_true] at h;exact h.1
def numbS (l:List Tk)(i:Nat)(lo hi:Int):Int×Int:=
 if kindIs l i 4=false then (0,50)
 else if (valOf (textAt l i) (numS (textAt l i))).1<lo∨hi<(valOf (textAt l i) (numS (textAt l i))).1 then (0,1)
 else ((valOf (textAt l i) (numS (textAt l i))).1,0)
abbrev wSet:ByteArray:=⟨#[115,101,116]⟩
abbrev sIs:ByteArray:=⟨#[61]⟩
abbrev sComma:ByteArray:=⟨#[44]⟩
abbrev wTo:ByteArray:=⟨#[116,111]⟩
abbrev wWhere:ByteArray:=⟨#[119,104,101,114,101]⟩
abbrev wAlong:ByteArray:=⟨#[97,108,111,110,103]⟩
abbrev wFrom:ByteArray:=⟨#[102,114,111,109]⟩
abbrev wHops:ByteArray:=⟨#[104,111,112,115]⟩
abbrev wBudget:ByteArray:=⟨#[98,117,100,103,101,116]⟩
def setsS (l:List Tk):Nat→Nat→List (ByteArray×Int)→Int×Nat×List (ByteArray×Int)
 | 0,i,q=>(50,i,q)
 | f+1,i,q=>
   if kindIs l (i+1) 2=false then (50,i+1,q)
   else if isT l (i+2) 7 sIs=false then (50,i+2,q)
   else if (numbS l (i+3) 0 4294967295).2≠0 then ((numbS l (i+3) 0 4294967295).2,i+3,q)
   else if isT l (i+4) 7 sComma=false then (0,i+4,q++[(textAt l (i+1),(numbS l (i+3) 0 4294967295).1)])
   else if (q++[(textAt l (i+1),(numbS l (i+3) 0 4294967295).1)]).length=12 then (183,i+4,q++[(textAt l (i+1),(numbS l (i+3) 0 4294967295).1)])
   else setsS l f (i+4) (q++[(textAt l (i+1),(numbS l (i+3) 0 4294967295).1)])
inductive Pc where|port|name|expr|text|hops|sets|word (s:ByteArray)
def AskS.named (a:AskS)(s:ByteArray)(first:Bool):AskS:=if first=true then { a with src:=s } else { a with dst:=s }
def saidAt (l:List Tk)(i:Nat):ByteArray:=(unqOf (textAt l i) (spkQ (textAt l i))).1
def pcS (l:List Tk)(p:Pc)(i:Nat)(first:Bool)(a:AskS):Int×Nat×AskS:=match p with
 | .port=>if kindIs l i 3=false then (50,i,a) else (0,i+1,a.named (textAt l i) first)
 | .name=>if kindIs l i 2=false then (50,i,a) else (0,i+1,a.named (textAt l i) first)
 | .expr=>match (readD l i).1 with
   | none=>((readD l i).2.2,(readD l i).2.1,a)
   | some e=>(0,(readD l i).2.1,{ a with cond:=e })
 | .text=>if kindIs l i 6=false then (50,i,a) else if 256<(saidAt l i).size∨patM (bs (saidAt l i))=false then (140,i,a) else (0,i+1,{ a with along:=saidAt l i })
 | .hops=>if (numbS l i 0 64).2≠0 then ((numbS l i 0 64).2,i,a) else (0,i+1,{ a with hops:=(numbS l i 0 64).1 })
 | .sets=>if isT l i 2 wSet=false then (0,i,a) else ((setsS l 12 i []).1,(setsS l 12 i []).2.1,{ a with sets:=(setsS l 12 i []).2.2 })
 | .word s=>if isT l i 2 s=false then (50,i,a) else (0,i+1,a)
def shapeS (k:Nat):List Pc:=
 if k=1∨k=2 then [.port,.word wTo,.port,.word wWhere,.expr]
 else if k=3∨k=4 then [.port,.word wWhere,.expr]
 else if k=5 then [.name,.word wFrom,.name]
 else if k=6 then [.port,.word wWhere,.expr,.word wAlong,.text]
 else if k=7 then [.port,.word wTo,.port,.word wWhere,.expr,.word wAlong,.text]
 else if k=9 then [.port,.sets]
 else []
def wordOf (k:Nat):ByteArray:=
 if k=1 then ⟨#[114,101,97,99,104]⟩ else if k=2 then ⟨#[109,105,115,115,101,100]⟩ else if k=3 then ⟨#[108,111,111,112]⟩
 else if k=4 then ⟨#[108,111,115,116]⟩ else if k=5 then ⟨#[105,115,111,108,97,116,101]⟩ else if k=6 then ⟨#[112,97,116,104]⟩
 else if k=7 then ⟨#[97,118,111,105,100]⟩ else if k=8 then ⟨#[99,111,118,101,114]⟩ else if k=9 then ⟨#[116,114,97,99,101]⟩ else ⟨#[]⟩
def isName? (p:Pc):Bool:=match p with|.port=>true|.name=>true|_=>false
def pcsS (l:List Tk):List Pc→Nat→Bool→AskS→Int×Nat×AskS
 | [],i,_,a=>(0,i,a)
 | p::r,i,first,a=>if (pcS l p i first a).1≠0 then pcS l p i first a
   else pcsS l r (pcS l p i first a).2.1 (first && !isName? p) (pcS l p i first a).2.2
def restS (l:List Tk)(k:Nat)(i:Nat):Int×Nat×AskS:=pcsS l (shapeS k++[.word wHops,.hops]) i true (AskS.of k)
def lineS (l:List Tk)(k:Nat)(i:Nat):Int×Nat×AskS:=
 if (restS l k (i+1)).1≠0 then restS l k (i+1)
 else if kindIs l (restS l k (i+1)).2.1 1=false then (50,(restS l k (i+1)).2.1,(restS l k (i+1)).2.2)
 else (0,(restS l k (i+1)).2.1+1,(restS l k (i+1)).2.2)
def kindOfW (s:ByteArray):Nat:=
 if s=wordOf 1 then 1 else if s=wordOf 2 then 2 else if s=wordOf 3 then 3 else if s=wordOf 4 then 4 else if s=wordOf 5 then 5
 else if s=wordOf 6 then 6 else if s=wordOf 7 then 7 else if s=wordOf 8 then 8 else if s=wordOf 9 then 9 else 0
def kindAt (l:List Tk)(i:Nat):Nat:=if kindIs l i 2=true then kindOfW (textAt l i) else 0
abbrev QueR:=(List AskS×Int) ⊕ (Int×Int)
def budS (l:List Tk):Int×Int:=if (numbS l 1 1 1024).2≠0 then numbS l 1 1 1024 else if kindIs l 2 1=false then (0,50) else numbS l 1 1 1024
def queL (l:List Tk):Nat→Nat→Int→List AskS→QueR
 | 0,_,b,q=>.inl (q,b)
 | f+1,i,b,q=>
   if l.length≤i then (if q=[] then .inr (170,0) else .inl (q,b))
   else if isT l i 2 wBudget=true then
    (if i≠0 then .inr (61,lnOf l i) else if (budS l).2≠0 then .inr ((budS l).2,lnOf l i) else queL l f 3 (budS l).1 q)
   else if kindAt l i=0 then .inr (60,lnOf l i)
   else if q.length=8 then .inr (71,lnOf l i)
   else if (lineS l (kindAt l i) i).1≠0 then .inr ((lineS l (kindAt l i) i).1,lnOf l i)
   else queL l f (lineS l (kindAt l i) i).2.1 b (q++[(lineS l (kindAt l i) i).2.2])
def queS (s:ByteArray):QueR:=if 16384<s.size then .inr (2,0) else match scanR s with
 | .inr x=>.inr (x.1,x.2.1)
 | .inl l=>queL l (l.length+1) 0 1024 []
theorem numb_in {l:List Tk}(hl:Lined l){i:Nat}{lo hi:Int}(h:(numbS l i lo hi).2=0):Stays l i (i+1):=by
 unfold numbS at h
 split at h
 ·cases h
 ·rename_i hk;exact Stays.step hl (k:=4) (by simpa using hk) (by decide)
theorem sets_in {l:List Tk}(hl:Lined l):∀ (f i:Nat) (q:List (ByteArray×Int)),kindIs l i 2=true∨kindIs l i 7=true→Stays l i (setsS l f i q).2.1
 | 0,i,q,h=>by
   have hi:i<l.length:=by
    unfold kindIs at h
    by_cases hi:i<l.length
    ·exact hi
    ·rw [List.getElem?_eq_none (by omega)] at h;simp at h
   exact Stays.refl hi
 | f+1,i,q,h=>by
   have s1:Stays l i (i+1):=by
    rcases h with h|h
    ·exact Stays.step hl h (by decide)
    ·exact Stays.step hl h (by decide)
   unfold setsS
   split
   ·exact s1
   ·rename_i h1;have s2:=s1.trans (Stays.step hl (k:=2) (by simpa using h1) (by decide))
    split
    ·exact s2
    ·rename_i h2;have s3:=s2.trans (Stays.step hl (isT_kind (by simpa using h2)) (by decide))
     split
     ·exact s3
     ·rename_i h3;have s4:=s3.trans (numb_in hl (by simpa using h3))
      split
      ·exact s4
      ·rename_i h4
       split
       ·exact s4
       ·exact s4.trans (sets_in hl f (i+4) _ (.inr (isT_kind (by simpa using h4))))
theorem pc_in {l:List Tk}(hl:Lined l)(p:Pc)(i:Nat)(first:Bool)(a:AskS)(hi:i<l.length):Stays l i (pcS l p i first a).2.1:=by
 cases p with
 | port=>
   unfold pcS;dsimp only
   split
   ·exact Stays.refl hi
   ·rename_i h;exact Stays.step hl (k:=3) (by simpa using h) (by decide)
 | name=>
   unfold pcS;dsimp only
   split
   ·exact Stays.refl hi
   ·rename_i h;exact Stays.step hl (k:=2) (by simpa using h) (by decide)
 | expr=>
   unfold pcS;dsimp only;have:=read_in hl hi
   split<;>exact this
 | text=>
   unfold pcS;dsimp only
   split
   ·exact Stays.refl hi
   ·rename_i h
    split
    ·exact Stays.refl hi
    ·exact Stays.step hl (k:=6) (by simpa using h) (by decide)
 | hops=>
   unfold pcS;dsimp only
   split
   ·exact Stays.refl hi
   ·rename_i h;exact numb_in hl (by simpa using h)
 | sets=>
   unfold pcS;dsimp only
   split
   ·exact Stays.refl hi
   ·rename_i h;exact sets_in hl 12 i [] (.inl (isT_kind (by simpa using h)))
 | word s=>
   unfold pcS;dsimp only
   split
   ·exact Stays.refl hi
   ·rename_i h;exact Stays.step hl (isT_kind (by simpa using h)) (by decide)
theorem pcs_in {l:List Tk}(hl:Lined l):∀ (r:List Pc) (i:Nat) (first:Bool) (a:AskS),i<l.length→Stays l i (pcsS l r i first a).2.1
 | [],i,_,_,hi=>Stays.refl hi
 | p::r,i,first,a,hi=>by
   unfold pcsS;have s1:=pc_in hl p i first a hi
   split
   ·exact s1
   ·exact s1.trans (pcs_in hl r _ _ _ s1.2.1)
theorem pcs_cons (l:List Tk)(p:Pc)(r:List Pc)(i:Nat)(first:Bool)(a:AskS):pcsS l (p::r) i first a =
  if (pcS l p i first a).1≠0 then pcS l p i first a else pcsS l r (pcS l p i first a).2.1 (first && !isName? p) (pcS l p i first a).2.2:=rfl
theorem pcs_app (l:List Tk):∀ (r r2:List Pc) (i:Nat) (first:Bool) (a:AskS),pcsS l (r++r2) i first a =
  if (pcsS l r i first a).1≠0 then pcsS l r i first a else pcsS l r2 (pcsS l r i first a).2.1 (first && r.all (fun p=>!isName? p)) (pcsS l r i first a).2.2
 | [],r2,i,first,a=>by simp [pcsS]
 | p::r,r2,i,first,a=>by
   rw [List.cons_append,pcs_cons,pcs_cons]
   by_cases h:(pcS l p i first a).1≠0
   ·rw [if_pos h,if_pos h,if_pos h]
   ·rw [if_neg h,if_neg h,pcs_app l r r2];simp only [List.all_cons,Bool.and_assoc]
end Go.Proofs.YtjokciofeicdkaaGreatDoor
