/- A part of the proof of RunParses: EqB EqC EqD EqE EqF EqG EqH EqI EqJ. -/
import Derived.Test.YtjokciofeicdkaaGreatDoorPG
import Derived.Test.YtjokciofeicdkaaGreatDoorPD
import Derived.Test.YtjokciofeicdkaaGreatDoorPC
import Derived.Test.YtjokciofeicdkaaGreatDoorPF
set_option maxHeartbeats 16000000
set_option maxRecDepth 100000
set_option linter.all false
namespace Go.Proofs.YtjokciofeicdkaaGreatDoor
open Go.RowKit
theorem strOfNums_append (a b:List Int):strOfNums (a++b)=strOfNums a++strOfNums b:=by
 unfold strOfNums;apply ByteArray.ext
 simp
theorem char_bytes (s:ByteArray)(i:Nat)(h:i<s.size)(hl:(sizeS s i).2=false):strOfNums (Lib.encodeRuneZ ((Utf8.decode s i).1:Nat))=s.extract i (i+(sizeS s i).1):=by
 have hb:=B_bytes _ (s.get! (i+1)).toNat (s.get! (i+2)).toNat (s.get! (i+3)).toNat (decide (i+1<s.size)) (decide (i+2<s.size)) (decide (i+3<s.size)) (byte_lt s i) (byte_lt _ _) (byte_lt _ _) (byte_lt _ _) (by rw [← size_as_B s i h];exact hl)
 rw [← size_as_B s i h,← dec_as_B s i] at hb;rw [hb];have hle:=sizeS_le s i h;have h4:=sizeS_pos s i;apply ByteArray.ext;apply Array.toList_inj.1
 have e:(s.extract i (i+(sizeS s i).1)).data.toList=((bs s).drop i).take (sizeS s i).1:=by
  have:=bs_extract s i (i+(sizeS s i).1);rw [show i+(sizeS s i).1-i=(sizeS s i).1 by omega] at this
  exact this
 rw [e];refine List.ext_getElem? fun j=>?_
 simp only [strOfNums,List.getElem?_map,List.getElem?_take,List.getElem?_drop]
 split
 ·rename_i hj
  have hk:∀ k,i+k<s.size→UInt8.ofNat (((s.get! (i+k)).toNat:Int).toNat)=s[i+k]!:=fun k hk=>by
   rw [get_bang s _ hk];simp [hk]
  rw [bs_get s (i+j) (by omega)]
  match j,hj with
  | 0,hj=>simp [get_bang s i (by omega)]
  | 1,hj=>simp [get_bang s (i+1) (by omega)]
  | 2,hj=>simp [get_bang s (i+2) (by omega)]
  | 3,hj=>simp [get_bang s (i+3) (by omega)]
  | j+4,hj=>omega
 ·rfl
def brcL (r:Bytes):Nat×List Int:=
 if (hexRun 6 0 r).1=0∨r[(hexRun 6 0 r).1]?≠some 125∨1114111<(hexRun 6 0 r).2∨(55296≤(hexRun 6 0 r).2∧(hexRun 6 0 r).2≤57343) then (0,[]) else ((hexRun 6 0 r).1+4,utfI (hexRun 6 0 r).2)
def xxL:Bytes→Nat×List Int
 | x::y::_=>if 0≤hexI x.toNat∧0≤hexI y.toNat then (4,[16*hexI x.toNat+hexI y.toNat]) else (0,[])
 | _=>(0,[])
def uuL:Bytes→Nat×List Int
 | c::r=>if c=123 then brcL r else (0,[])
 | []=>(0,[])
def escB (b:UInt8)(r:Bytes):Nat×List Int:=
 if b.toNat=34 then (2,[34]) else if b.toNat=92 then (2,[92]) else if b.toNat=110 then (2,[10]) else if b.toNat=114 then (2,[13]) else if b.toNat=116 then (2,[9])
 else if b.toNat=120 then xxL r else if b.toNat=117 then uuL r else (0,[])
def escRL:Bytes→Nat×List Int
 | _::b::r=>escB b r
 | _=>(0,[])
def bR (r:Bytes):Nat×Nat:=
 if (hexRun 6 0 r).1=0∨r[(hexRun 6 0 r).1]?≠some 125∨1114111<(hexRun 6 0 r).2∨(55296≤(hexRun 6 0 r).2∧(hexRun 6 0 r).2≤57343) then (0,0) else ((hexRun 6 0 r).1+4,(hexRun 6 0 r).2)
theorem brcL_eq (r:Bytes):(if 0<(bR r).1 then ((bR r).1,utfI (bR r).2) else (0,[]))=brcL r:=by
 unfold bR brcL
 by_cases hc:(hexRun 6 0 r).1=0∨r[(hexRun 6 0 r).1]?≠some 125∨1114111<(hexRun 6 0 r).2∨(55296≤(hexRun 6 0 r).2∧(hexRun 6 0 r).2≤57343)
 ·rw [if_pos hc,if_pos hc];rfl
 ·rw [if_neg hc,if_neg hc,if_pos (Nat.succ_pos _)]
theorem drop_get (l:Bytes)(i j:Nat):(l.drop i)[j]?=l[i+j]?:=by simp
theorem escR_list (s:ByteArray)(i:Nat)(h:i<s.size):escR s i=escRL ((bs s).drop i):=by
 unfold escR
 by_cases h1:i+1<s.size
 ·rw [bs_get s _ h1,bs_drop s i h,bs_drop s _ h1];dsimp only;unfold escRL escC escB
  have hx:escX s i=xxL ((bs s).drop (i+1+1)):=by
   unfold escX
   by_cases h2:i+2<s.size
   ·by_cases h3:i+3<s.size
    ·rw [bs_get s _ h2,bs_get s _ h3,bs_drop s (i+1+1) (by omega),bs_drop s (i+1+1+1) (by omega)];rfl
    ·rw [bs_get s _ h2,bs_none s _ h3,bs_drop s (i+1+1) (by omega),bs_drop_end s (i+1+1+1) (by omega)];rfl
   ·rw [bs_none s _ h2,bs_drop_end s (i+1+1) (by omega)];rfl
  have hu:(if 0<(bracedR s i).1 then ((bracedR s i).1,utfI (bracedR s i).2) else (0,[]))=uuL ((bs s).drop (i+1+1)):=by
   by_cases h2:i+2<s.size
   ·have hb:bracedR s i=if s[i+2]=123 then bR ((bs s).drop (i+3)) else (0,0):=by
     unfold bracedR bR;rw [bs_get s _ h2];have e1:∀ k,(bs s)[i+3+k]?=((bs s).drop (i+3))[k]?:=fun k=>by rw [drop_get]
     by_cases hc:s[i+2]=123
     ·rw [if_neg (by rw [hc];simp),if_pos hc,e1]
     ·rw [if_pos (by simpa using hc),if_neg hc]
    rw [hb,bs_drop s (i+1+1) (by omega)]
    unfold uuL;dsimp only
    by_cases hc:s[i+2]=123
    ·rw [if_pos hc,if_pos (show s[i+1+1]=123 from hc)]
     exact brcL_eq _
    ·rw [if_neg hc,if_neg (show ¬ s[i+1+1]=123 from hc)];rfl
   ·have hb:bracedR s i=(0,0):=by unfold bracedR;rw [if_pos (by rw [bs_none s _ h2];simp)]
    rw [hb,bs_drop_end s (i+1+1) (by omega)];rfl
  rw [hx,hu]
 ·rw [bs_none s _ h1,bs_drop s i h,bs_drop_end s _ h1];rfl
theorem hexI_ten:hexI (10:UInt8).toNat<0:=by decide
theorem hexRun_cut:∀ (k n:Nat)(l r:Bytes),hexRun k n (l++10::r)=hexRun k n l
 | 0,n,l,r=>by cases l<;>rfl
 | k+1,n,[],r=>by
   show (if hexI (10:UInt8).toNat<0 then (0,n) else _)=_
   rw [if_pos hexI_ten];rfl
 | k+1,n,c::l,r=>by
   show (if hexI c.toNat<0 then (0,n) else ((hexRun k (16*n+(hexI c.toNat).toNat) (l++10::r)).1+1,(hexRun k (16*n+(hexI c.toNat).toNat) (l++10::r)).2))=_
   rw [hexRun_cut k _ l r];rfl
theorem hexRun_len:∀ (k n:Nat)(l:Bytes),(hexRun k n l).1≤l.length
 | 0,n,l=>by cases l<;>exact Nat.zero_le _
 | k+1,n,[]=>Nat.zero_le _
 | k+1,n,c::l=>by
   unfold hexRun
   split
   ·exact Nat.zero_le _
   ·exact Nat.succ_le_succ (hexRun_len k _ l)
theorem brcL_cut (l r:Bytes):brcL (l++10::r)=brcL l:=by
 unfold brcL;rw [hexRun_cut];have hlen:=hexRun_len 6 0 l
 have e:((l++10::r)[(hexRun 6 0 l).1]?≠some 125)↔(l[(hexRun 6 0 l).1]?≠some 125):=by
  by_cases h:(hexRun 6 0 l).1<l.length
  ·rw [List.getElem?_append_left h]
  ·have e1:(hexRun 6 0 l).1=List.length l:=by omega
   rw [e1,List.getElem?_append_right (Nat.le_refl _),Nat.sub_self,List.getElem?_eq_none (Nat.le_refl _)]
   simp
 simp only [e]
theorem escRL_cut (b:UInt8)(l r:Bytes):escRL (b::l++10::r)=escRL (b::l):=by
 have hx:∀ l:Bytes,xxL (l++10::r)=xxL l:=fun l=>by
  match l with
  | []=>
    match r with
    | []=>rfl
    | y::r'=>
      show (if 0≤hexI (10:UInt8).toNat∧0≤hexI y.toNat then (4,[16*hexI (10:UInt8).toNat+hexI y.toNat]) else (0,[]))=(0,[])
      rw [if_neg (fun h=>by have:=hexI_ten;omega)]
  | [x]=>simp only [List.cons_append,List.nil_append,xxL];rw [if_neg];rintro ⟨_,h⟩;have:=hexI_ten;omega
  | x::y::l=>rfl
 have hu:∀ l:Bytes,uuL (l++10::r)=uuL l:=fun l=>by
  match l with
  | []=>rfl
  | c::l=>simp only [List.cons_append,uuL,brcL_cut]
 match l with
 | []=>simp [escRL,escB]
 | c::l=>
   simp only [List.cons_append,escRL];unfold escB;rw [hx,hu]
theorem idx_split:∀ l:Bytes,(Lib.index l [125] = -1∧(125:UInt8) ∉ l)∨∃ D R,l=D++125::R∧(125:UInt8) ∉ D∧Lib.index l [125]=(D.length:Int)
 | []=>.inl ⟨rfl,by simp⟩
 | b::l=>by
   by_cases hb:b=125
   ·subst hb;exact .inr ⟨[],l,rfl,by simp,by simp [Lib.index]⟩
   ·have hp:([125]:List UInt8).isPrefixOf (b::l)=false:=by simp [List.isPrefixOf];exact fun h=>hb h.symm
    rcases idx_split l with ⟨h1,h2⟩|⟨D,R,h1,h2,h3⟩
    ·refine .inl ⟨?_,by simp [h2];exact fun h=>hb h.symm⟩
     unfold Lib.index;rw [hp,h1];rfl
    ·refine .inr ⟨b::D,R,by rw [h1];rfl,by simp [h2];exact fun h=>hb h.symm,?_⟩
     unfold Lib.index;rw [hp,h3];rw [if_neg (by simp),if_neg (by simp)]
     simp
theorem cut_none {l:Bytes}(h:Lib.index l [125] = -1):Lib.cut l [125]=(l,[],false):=by unfold Lib.cut;rw [h];rfl
theorem cut_some {l D R:Bytes}(h1:l=D++125::R)(h:Lib.index l [125]=(D.length:Int)):(Lib.cut l [125]).1=D∧(Lib.cut l [125]).2.2=true:=by
 unfold Lib.cut;rw [h,if_pos (by omega)]
 refine ⟨?_,rfl⟩;rw [h1];simp
theorem hexI_hexU (c:UInt8):(hexU c=true→hexI c.toNat=(hexVal c.toNat:Int)∧hexVal c.toNat<16)∧(hexU c=false→hexI c.toNat<0):=by
 constructor
 ·intro h;simp only [hexU,digitU,digitN,Bool.or_eq_true,Bool.and_eq_true,decide_eq_true_eq] at h;unfold hexI hexVal
  (repeat' split)<;>omega
 ·intro h;simp only [hexU,digitU,digitN,Bool.or_eq_false_iff,Bool.and_eq_false_iff,decide_eq_false_iff_not] at h;unfold hexI
  (repeat' split)<;>omega
def hexFold (n:Nat)(D:Bytes):Nat:=D.foldl (fun a c=>16*a+hexVal c.toNat) n
theorem hexRun_D:∀ (D:Bytes)(k n:Nat)(X:Bytes),(D.all hexU=true∧D.length≤k→hexRun k n (D++125::X)=(D.length,hexFold n D))∧(¬ (D.all hexU=true∧D.length≤k)→(hexRun k n (D++125::X)).1<D.length)
 | [],k,n,X=>by
   refine ⟨fun _=>?_,fun h=>absurd ⟨rfl,Nat.zero_le _⟩ h⟩
   cases k with
   | zero=>rfl
   | succ k=>
     show (if hexI (125:UInt8).toNat<0 then (0,n) else _)=_
     rw [if_pos (by decide)];rfl
 | c::D,0,n,X=>by
   refine ⟨fun h=>by have:=h.2;simp at this,fun _=>?_⟩
   show 0<_
   simp
 | c::D,k+1,n,X=>by
   have e:hexRun (k+1) n (c::D++125::X)=if hexI c.toNat<0 then (0,n) else ((hexRun k (16*n+(hexI c.toNat).toNat) (D++125::X)).1+1,(hexRun k (16*n+(hexI c.toNat).toNat) (D++125::X)).2):=rfl
   rw [e];obtain ⟨a1,a2⟩:=hexI_hexU c
   cases hu:hexU c
   ·have:=a2 hu;rw [if_pos this];refine ⟨fun h=>?_,fun _=>by simp⟩
    have:=h.1
    simp [hu] at this
   ·obtain ⟨h1,h2⟩:=a1 hu;rw [if_neg (by omega),h1,Int.toNat_natCast]
    obtain ⟨i1,i2⟩:=hexRun_D D k (16*n+hexVal c.toNat) X;refine ⟨fun h=>?_,fun h=>?_⟩
    ·rw [i1 ⟨by have:=h.1;simp [hu] at this;simpa using this,by have:=h.2;simp at this;omega⟩]
     simp [hexFold]
    ·have:=i2 (fun hh=>h ⟨by simp [hu];simpa using hh.1,by simp;omega⟩)
     simp;omega
theorem basedFrom_hex:∀ (D:Bytes)(n:Nat),D.all hexU=true→basedFrom 16 n D=some (hexFold n D)
 | [],n,_=>rfl
 | c::D,n,h=>by
   simp only [List.all_cons,Bool.and_eq_true] at h;have:=((hexI_hexU c).1 h.1).2;unfold basedFrom;rw [if_pos this,basedFrom_hex D _ h.2];simp only [hexFold,List.foldl_cons,Nat.mul_comm]
theorem allOf_hex (D:Bytes):allOf D hexCs=D.all hexU:=by unfold allOf;congr 1;funext c;exact hexCs_at c
theorem basedS_hex (D:Bytes)(most:Nat):basedS 16 most D=if D≠[]∧D.length≤most∧D.all hexU=true then some (hexFold 0 D) else none:=by
 unfold basedS
 by_cases h0:D=[]
 ·rw [if_pos (.inl h0),if_neg (by simp [h0])]
 ·by_cases hl:most<D.length
  ·rw [if_pos (.inr hl),if_neg (by omega)]
  ·rw [if_neg (by simp [h0];omega),allOf_hex]
   cases hh:D.all hexU
   ·rw [if_pos rfl,if_neg (by simp)]
   ·rw [if_neg (by simp),basedFrom_hex D 0 hh,if_pos ⟨h0,by omega,rfl⟩]
theorem utfI_enc (v:Nat)(h:Lib.validRune (v:Int)=true):utfI v=Lib.encodeRuneZ (v:Int):=by
 simp only [Lib.validRune,decide_eq_true_eq] at h;unfold utfI
 by_cases h1:v<128
 ·rw [if_pos h1,Lib.encodeRuneZ_one (by omega) (by omega)]
 ·by_cases h2:v<2048
  ·rw [if_neg h1,if_pos h2,Lib.encodeRuneZ_two (by omega) (by omega)]
  ·by_cases h3:v<65536
   ·rw [if_neg h1,if_neg h2,if_pos h3,Lib.encodeRuneZ_three (by omega)]
   ·rw [if_neg h1,if_neg h2,if_neg h3,Lib.encodeRuneZ_four (by omega) (by omega)]
def escUL (r:Bytes):List Int×Nat:=
 if (Lib.cut r [125]).2.2=false then ([],0) else
 match basedS 16 6 (Lib.cut r [125]).1 with
 | none=>([],0)
 | some v=>if Lib.validRune v=false then ([],0) else (Lib.encodeRuneZ v,(Lib.cut r [125]).1.length+4)
theorem brc_same (r:Bytes):escUL r=((brcL r).2,(brcL r).1):=by
 unfold escUL brcL;rcases idx_split r with ⟨h1,h2⟩|⟨D,R,h1,h2,h3⟩
 ·rw [cut_none h1,if_pos rfl,if_pos];refine .inr (.inl fun h=>h2 (List.mem_of_getElem? h))
 ·obtain ⟨c1,c2⟩:=cut_some h1 h3;rw [c2,if_neg (by simp),c1,basedS_hex]
  obtain ⟨i1,i2⟩:=hexRun_D D 6 0 R;rw [← h1] at i1 i2
  by_cases hh:D.all hexU=true∧D.length≤6
  ·rw [i1 hh];dsimp only
   by_cases h0:D=[]
   ·rw [if_neg (by simp [h0]),if_pos (.inl (by simp [h0]))]
   ·rw [if_pos ⟨h0,hh.2,hh.1⟩];dsimp only;have hg:r[D.length]?=some 125:=by rw [h1,List.getElem?_append_right (Nat.le_refl _)];simp
    have hl0:¬ D.length=0:=fun h=>h0 (List.length_eq_zero_iff.1 h)
    cases hv:Lib.validRune (hexFold 0 D:Nat)
    ·rw [if_pos rfl,if_pos];simp only [Lib.validRune,decide_eq_false_iff_not] at hv;right;right;omega
    ·rw [if_neg (by simp),if_neg,utfI_enc _ hv]
     simp only [Lib.validRune,decide_eq_true_eq] at hv
     simp [hg,hl0];omega
  ·have hlt:=i2 hh;have e1:(if D≠[]∧D.length≤6∧D.all hexU=true then some (hexFold 0 D) else none)=none:=if_neg (fun h=>hh ⟨h.2.2,h.2.1⟩)
   rw [e1,if_pos];refine .inr (.inl fun h=>?_)
   rw [h1,List.getElem?_append_left (by rw [← h1];exact hlt)] at h
   exact h2 (List.mem_of_getElem? h)
theorem basedS_two (x y:UInt8):basedS 16 2 [x,y]=if 0≤hexI x.toNat∧0≤hexI y.toNat then some (16*hexVal x.toNat+hexVal y.toNat) else none:=by
 rw [basedS_hex];obtain ⟨a1,a2⟩:=hexI_hexU x;obtain ⟨b1,b2⟩:=hexI_hexU y
 cases hx:hexU x
 ·rw [if_neg (by simp [hx]),if_neg (by have:=a2 hx;omega)]
 ·cases hy:hexU y
  ·rw [if_neg (by simp [hx,hy]),if_neg (by have:=b2 hy;omega)]
  ·rw [if_pos (by simp [hx,hy]),if_pos (by have:=(a1 hx).1;have:=(b1 hy).1;omega)]
   simp [hexFold]
theorem hexI_val (c:UInt8)(h:0≤hexI c.toNat):hexI c.toNat=(hexVal c.toNat:Int):=by
 obtain ⟨a1,a2⟩:=hexI_hexU c
 cases hc:hexU c
 ·have:=a2 hc;omega
 ·exact (a1 hc).1
theorem escS_list (t:ByteArray)(r:Bytes)(h:bs t=92::r):escS t=((escRL (bs t)).2,(escRL (bs t)).1):=by
 have hsz:t.size=r.length+1:=by rw [← bs_length,h];rfl
 unfold escS;rw [h]
 match r,hsz with
 | [],hsz=>rw [dif_pos (by simp at hsz;omega)];rfl
 | b::r,hsz=>
   have h1:1<t.size:=by simp at hsz;omega
   have e1:t[1]=b:=by
    have:=bs_get t 1 h1;rw [h] at this;simpa using this.symm
   rw [dif_neg (by omega)]
   simp only [e1];unfold escRL;dsimp only
   have eU:b.toNat≠117→escU t=([],0):=fun hb=>by
    unfold escU;rw [if_pos];rw [h];simp only [Lib.hasPrefix,List.isPrefixOf];have:(117 == b)=false:=by rw [beq_eq_false_iff_ne];rintro rfl;exact hb rfl
    rw [this];simp
   unfold escB
   by_cases h34:b.toNat=34
   ·rw [if_pos h34,if_pos h34]
   rw [if_neg h34,if_neg h34]
   by_cases h92:b.toNat=92
   ·rw [if_pos h92,if_pos h92]
   rw [if_neg h92,if_neg h92]
   by_cases h110:b.toNat=110
   ·rw [if_pos h110,if_pos h110]
   rw [if_neg h110,if_neg h110]
   by_cases h114:b.toNat=114
   ·rw [if_pos h114,if_pos h114]
   rw [if_neg h114,if_neg h114]
   by_cases h116:b.toNat=116
   ·rw [if_pos h116,if_pos h116]
   rw [if_neg h116,if_neg h116]
   by_cases h120:b.toNat=120
   ·rw [if_pos h120];have hU:=eU (by omega)
    match r,hsz,h with
    | [],hsz,h=>rw [if_neg (by simp at hsz;omega),hU];rfl
    | [x],hsz,h=>rw [if_neg (by simp at hsz;omega),hU];rfl
    | x::y::r,hsz,h=>
      have e2:bs (t.extract 2 4)=[x,y]:=by rw [bs_extract,h];rfl
      rw [if_pos ⟨h120,by simp at hsz;omega⟩,e2,basedS_two]
      unfold xxL;dsimp only
      by_cases hh:0≤hexI x.toNat∧0≤hexI y.toNat
      ·rw [if_pos hh,if_pos hh,hexI_val x hh.1,hexI_val y hh.2]
       simp
      ·rw [if_neg hh,if_neg hh,hU]
   ·rw [if_neg h120,if_neg (fun h=>h120 h.1)]
    by_cases h117:b.toNat=117
    ·rw [if_pos h117];have hb:b=117:=UInt8.toNat.inj h117;subst hb
     match r,hsz,h with
     | [],hsz,h=>
       have:escU t=([],0):=by
        unfold escU;rw [if_pos];rw [h];rfl
       rw [this];rfl
     | c::r,hsz,h=>
       unfold uuL;dsimp only
       by_cases hc:c=123
       ·subst hc;rw [if_pos rfl];have e3:bs (t.extract 3 t.size)=r:=by rw [bs_from,h];rfl
        rw [← brc_same];unfold escU escUL;rw [if_neg (by rw [h];simp [Lib.hasPrefix,List.isPrefixOf]),e3]
        rfl
       ·rw [if_neg hc]
        have:escU t=([],0):=by
         unfold escU;rw [if_pos];rw [h];simp [Lib.hasPrefix,List.isPrefixOf];exact fun h=>hc h.symm
        rw [this]
    ·rw [if_neg h117,eU h117]
structure LineIn (s:ByteArray)(a e:Nat):Prop where
 ae:a≤e
 es:e≤s.size
 fin:∀ h:e<s.size,s[e].toNat=10
section
variable {s:ByteArray} {a e:Nat}
theorem line_size (L:LineIn s a e):(s.extract a e).size=e-a:=by
 have:=L.es
 simp [ByteArray.size_extract];omega
theorem line_bs (s:ByteArray)(a e:Nat):bs (s.extract a e)=((bs s).drop a).take (e-a):=bs_extract s a e
theorem line_at (L:LineIn s a e)(i:Nat)(h:i<(s.extract a e).size)(h2:a+i<s.size):(s.extract a e)[i]=s[a+i]:=by
 have hz:=line_size L;have h1:=bs_get (s.extract a e) i h;rw [line_bs,List.getElem?_take,if_pos (by omega),List.getElem?_drop,bs_get s _ h2] at h1
 exact (Option.some.inj h1).symm
theorem line_within (L:LineIn s a e)(i lo hi_:Nat)(h:i≤(s.extract a e).size)(hlo:10<lo):withinS (s.extract a e) i lo hi_=withinS s (a+i) lo hi_:=by
 have hz:=line_size L;have hes:=L.es;have hae:=L.ae
 by_cases hi:i<(s.extract a e).size
 ·rw [withinS_in _ i lo hi_ hi,withinS_in s (a+i) lo hi_ (by omega),line_at L i hi (by omega)]
 ·rw [withinS_out _ i lo hi_ hi]
  by_cases h2:a+i<s.size
  ·rw [withinS_in s (a+i) lo hi_ h2];have he:a+i=e:=by omega
   have:=L.fin (by omega)
   symm
   rw [decide_eq_false_iff_not];have e3:s[a+i].toNat=10:=by simp only [he];exact this
   omega
  ·rw [withinS_out s (a+i) lo hi_ h2]
theorem line_sizeS (L:LineIn s a e)(i:Nat)(h:i<(s.extract a e).size):sizeS (s.extract a e) i=sizeS s (a+i):=by
 have hz:=line_size L;have hes:=L.es;have hae:=L.ae;unfold sizeS;rw [bs_get _ i h,bs_get s (a+i) (by omega),line_at L i h (by omega)]
 dsimp only;have w1:∀ lo hi,10<lo→withinS (s.extract a e) (i+1) lo hi=withinS s (a+i+1) lo hi:=fun lo hi hlo=>line_within L (i+1) lo hi (by omega) hlo
 rw [w1 128 191 (by decide),w1 160 191 (by decide),w1 128 159 (by decide),w1 144 191 (by decide),w1 128 143 (by decide)]
 by_cases h1:i+1<(s.extract a e).size
 ·have w2:withinS (s.extract a e) (i+2) 128 191=withinS s (a+i+2) 128 191:=line_within L (i+2) 128 191 (by omega) (by decide)
  rw [w2]
  by_cases h2:i+2<(s.extract a e).size
  ·have w3:withinS (s.extract a e) (i+3) 128 191=withinS s (a+i+3) 128 191:=line_within L (i+3) 128 191 (by omega) (by decide)
   rw [w3]
  ·have z2:withinS s (a+i+2) 128 191=false:=by rw [← w2,withinS_out _ _ _ _ h2]
   simp only [z2,Bool.and_false,Bool.false_and]
 ·have z1:∀ lo hi,10<lo→withinS s (a+i+1) lo hi=false:=fun lo hi hlo=>by rw [← w1 lo hi hlo,withinS_out _ _ _ _ h1]
  simp only [z1 128 191 (by decide),z1 160 191 (by decide),z1 128 159 (by decide),z1 144 191 (by decide),z1 128 143 (by decide),Bool.and_false,Bool.false_and]
theorem line_rest (L:LineIn s a e)(i:Nat)(h:i≤(s.extract a e).size):(bs s).drop (a+i)=(bs (s.extract a e)).drop i++(bs s).drop e:=by
 have hz:=line_size L;have hae:=L.ae;have e1:=(List.take_append_drop (e-a-i) ((bs s).drop (a+i))).symm;rw [List.drop_drop,show a+i+(e-a-i)=e by omega] at e1
 rw [line_bs,List.drop_take,List.drop_drop];exact e1
theorem line_esc (L:LineIn s a e)(i:Nat)(h:i<(s.extract a e).size)(h92:(s.extract a e)[i].toNat=92):escS (s.extract (a+i) s.size)=((escR (s.extract a e) i).2,(escR (s.extract a e) i).1):=by
 have hz:=line_size L;have hes:=L.es;have hr:=line_rest L i (by omega)
 have hb:bs (s.extract (a+i) s.size)=(bs s).drop (a+i):=bs_from s (a+i);have hd:=bs_drop (s.extract a e) i h;have h92':(s.extract a e)[i]=92:=UInt8.toNat.inj h92;rw [escR_list _ i h];have e1:bs (s.extract (a+i) s.size)=92::((bs (s.extract a e)).drop (i+1)++(bs s).drop e):=by rw [hb,hr,hd,h92'];rfl
 rw [escS_list _ _ e1,e1,hd,h92']
 by_cases he:e<s.size
 ·have h10:s[e]=10:=UInt8.toNat.inj (L.fin he);rw [bs_drop s e he,h10];have:=escRL_cut 92 ((bs (s.extract a e)).drop (i+1)) ((bs s).drop (e+1));rw [List.cons_append] at this;rw [this]
 ·rw [bs_drop_end s e he,List.append_nil]
end
theorem bs_inj {x y:ByteArray}(h:bs x=bs y):x=y:=ByteArray.ext (Array.toList_inj.1 h)
theorem rest_rest (s:ByteArray)(p j:Nat):(s.extract p s.size).extract j (s.extract p s.size).size=s.extract (p+j) s.size:=by
 apply bs_inj;rw [bs_from,bs_from,bs_from,List.drop_drop]
theorem rest_size (s:ByteArray)(p:Nat)(_:p≤s.size):(s.extract p s.size).size=s.size-p:=by simp [ByteArray.size_extract]
theorem hexRun_in (r:Bytes)(h:r[(hexRun 6 0 r).1]?=some 125):(hexRun 6 0 r).1<r.length:=(List.getElem?_eq_some_iff.1 h).1
theorem escRL_len (l:Bytes):(escRL l).1≤l.length:=by
 have hb:∀ r:Bytes,(brcL r).1≤r.length+3:=fun r=>by
  unfold brcL
  split
  ·exact Nat.zero_le _
  ·rename_i h;simp only [not_or,Classical.not_not] at h;have:=hexRun_in r h.2.1
   show (hexRun 6 0 r).1+4≤_
   omega
 match l with
 | []=>exact Nat.zero_le _
 | [_]=>exact Nat.zero_le _
 | _::b::r=>
   have hx:(xxL r).1≤r.length+2:=by
    match r with
    | []=>exact Nat.zero_le _
    | [_]=>exact Nat.zero_le _
    | x::y::r=>
      show (if 0≤hexI x.toNat∧0≤hexI y.toNat then (4,[16*hexI x.toNat+hexI y.toNat]) else ((0:Nat),([]:List Int))).1≤_
      split<;>simp
   have hu:(uuL r).1≤r.length+2:=by
    match r with
    | []=>exact Nat.zero_le _
    | c::r=>
      unfold uuL;dsimp only
      split
      ·have:=hb r;simp;omega
      ·exact Nat.zero_le _
   unfold escRL;dsimp only;unfold escB
   repeat' split
   all_goals simp only [List.length_cons]
   all_goals omega
theorem line_extract (s:ByteArray)(a e i k:Nat)(h:i+k≤e-a):(s.extract a e).extract i (i+k)=s.extract (a+i) (a+i+k):=by
 apply bs_inj;rw [bs_extract,bs_extract,bs_extract,List.drop_take,List.drop_drop,List.take_take]
 congr 1;omega
section
variable {s:ByteArray} {a e:Nat}
theorem ins_speak (L:LineIn s a e)(i0:Nat)(lines:Bool)(hl:lines=true→∀ k (h:k<s.size),a≤k→k<e→s[k].toNat≠10)(hf:lines=false→e=s.size):∀ (n m j:Nat) (said:List Int),i0+j≤(s.extract a e).size→(s.extract a e).size<i0+j+n→(s.extract a e).size<i0+j+m →
  ∃ (r:List Int) (k:Nat) (c:Int),speakS (s.extract (a+i0) s.size) lines n j said=(r,k,c)∧insR (s.extract a e) m (i0+j) (strOfNums said)=(strOfNums r,i0+k,c)
 | 0,m,j,said,h1,h2,h3=>by omega
 | n+1,0,j,said,h1,h2,h3=>by omega
 | n+1,m+1,j,said,h1,h2,h3=>by
   have hz:=line_size L;have hes:=L.es;have hae:=L.ae;have htz:=rest_size s (a+i0) (by omega)
   unfold speakS insR
   by_cases hI:i0+j<(s.extract a e).size
   ·have hj:j<(s.extract (a+i0) s.size).size:=by omega
    have hP:a+i0+j<s.size:=by omega
    have hbyte:(s.extract a e)[i0+j]=s[a+i0+j]:=by
     rw [line_at L (i0+j) hI (by omega)];simp only [Nat.add_assoc]
    have hdec:Utf8.decode (s.extract (a+i0) s.size) j=Utf8.decode s (a+i0+j):=decode_extract s (a+i0) j (by omega) hP
    have hrr:=rest_rest s (a+i0) j;have hn10:lines=true→s[a+i0+j].toNat≠10:=fun h=>hl h (a+i0+j) hP (by omega) (by omega)
    have hsz:sizeS (s.extract a e) (i0+j)=sizeS s (a+i0+j):=by rw [line_sizeS L (i0+j) hI,Nat.add_assoc]
    obtain ⟨hd2,hdl⟩:=size_dec s (a+i0+j) hP;have hasc:=fun h=>decode_ascii s (a+i0+j) hP h
    have hhigh:=fun h=>decode_high s (a+i0+j) hP h
    have hloose:looseS (s.extract (a+i0) s.size) j (Utf8.decode s (a+i0+j)).1=(sizeS s (a+i0+j)).2:=by
     unfold looseS;rw [hrr]
     have hg:Lib.decodeGo (s.extract (a+i0+j) s.size)=Utf8.decode s (a+i0+j):=by
      unfold Lib.decodeGo;rw [if_neg (by rw [rest_size s _ (by omega)];omega)]
      exact decode_extract s (a+i0+j) 0 (by omega) hP
     rw [hg,Bool.eq_iff_iff,hdl];generalize Utf8.decode s (a+i0+j)=q;obtain ⟨q1,q2⟩:=q
     simp
     intro _;omega
    rw [if_pos hj,dif_pos hI,hdec,hbyte]
    by_cases h34:s[a+i0+j].toNat=34
    ·rw [if_pos h34,if_pos (by rw [hasc (by omega)];exact h34)]
     exact ⟨_,_,_,rfl,by rw [Nat.add_assoc]⟩
    rw [if_neg h34,if_neg (by
     by_cases hh:s[a+i0+j].toNat<128
     ·rw [hasc hh];exact h34
     ·have:=(hhigh (by omega)).1;omega)]
    by_cases h92:s[a+i0+j].toNat=92
    ·rw [if_pos h92,if_pos (by rw [hasc (by omega)];exact h92),hrr]
     have hesc:=line_esc L (i0+j) hI (by rw [hbyte];exact h92)
     rw [← Nat.add_assoc] at hesc;rw [hesc];dsimp only
     by_cases hk:(escR (s.extract a e) (i0+j)).1=0
     ·rw [if_pos hk,if_pos hk];exact ⟨_,_,_,rfl,rfl⟩
     ·rw [if_neg hk,if_neg hk]
      have hlen:i0+j+(escR (s.extract a e) (i0+j)).1≤(s.extract a e).size:=by
       rw [escR_list _ _ hI];have:=escRL_len ((bs (s.extract a e)).drop (i0+j));rw [List.length_drop,bs_length] at this;omega
      obtain ⟨r,k,c,e1,e2⟩:=ins_speak L i0 lines hl hf n m (j+(escR (s.extract a e) (i0+j)).1) (said++(escR (s.extract a e) (i0+j)).2) (by omega) (by omega) (by omega)
      refine ⟨r,k,c,e1,?_⟩;rw [strOfNums_append,← Nat.add_assoc] at e2;exact e2
    rw [if_neg h92,if_neg (by
     by_cases hh:s[a+i0+j].toNat<128
     ·rw [hasc hh];exact h92
     ·have:=(hhigh (by omega)).1;omega),if_neg (by
     rintro ⟨h,ht⟩
     by_cases hh:s[a+i0+j].toNat<128
     ·rw [hasc hh] at h;exact hn10 ht h
     ·have:=(hhigh (by omega)).1;omega),hloose,hsz]
    have hbad:((Utf8.decode s (a+i0+j)).1<32∨(Utf8.decode s (a+i0+j)).1=127∨(sizeS s (a+i0+j)).2=true)↔((sizeS s (a+i0+j)).2=true∨s[a+i0+j].toNat<32∨s[a+i0+j].toNat=127):=by
     by_cases hh:s[a+i0+j].toNat<128
     ·rw [hasc hh];constructor
      ·rintro (h|h|h)
       ·exact .inr (.inl h)
       ·exact .inr (.inr h)
       ·exact .inl h
      ·rintro (h|h|h)
       ·exact .inr (.inr h)
       ·exact .inl h
       ·exact .inr (.inl h)
     ·have:=(hhigh (by omega)).1
      constructor
      ·rintro (h|h|h)
       ·omega
       ·omega
       ·exact .inl h
      ·rintro (h|h|h)
       ·exact .inr (.inr h)
       ·omega
       ·omega
    by_cases hb:(sizeS s (a+i0+j)).2=true∨s[a+i0+j].toNat<32∨s[a+i0+j].toNat=127
    ·rw [if_pos (hbad.2 hb),if_pos hb];exact ⟨_,_,_,rfl,rfl⟩
    ·rw [if_neg (fun h=>hb (hbad.1 h)),if_neg hb,hd2]
     have hll:(sizeS s (a+i0+j)).2=false:=by
      cases h:(sizeS s (a+i0+j)).2
      ·rfl
      ·exact absurd (.inl h) hb
     have hle:=sizeS_le (s.extract a e) (i0+j) hI;have hpos:=(sizeS_pos s (a+i0+j)).1;rw [hsz] at hle;obtain ⟨r,k,c,e1,e2⟩:=ins_speak L i0 lines hl hf n m (j+(sizeS s (a+i0+j)).1) (said++Lib.encodeRuneZ ((Utf8.decode s (a+i0+j)).1:Nat)) (by omega) (by omega) (by omega)
     refine ⟨r,k,c,e1,?_⟩;rw [strOfNums_append,char_bytes s _ hP hll,← Nat.add_assoc] at e2;rw [line_extract s a e (i0+j) _ (by omega),← Nat.add_assoc]
     exact e2
   ·have hend:i0+j=(s.extract a e).size:=by omega
    rw [dif_neg hI]
    by_cases hP:a+i0+j<s.size
    ·have hpe:a+i0+j=e:=by omega
     have hlt:lines=true:=by
      cases lines with
      | true=>rfl
      | false=>have:=hf rfl;omega
     subst hlt;have h10:s[a+i0+j].toNat=10:=by simp only [hpe];exact L.fin (by omega)
     have hj:j<(s.extract (a+i0) s.size).size:=by omega
     have hdec:Utf8.decode (s.extract (a+i0) s.size) j=(10,1):=by
      rw [decode_extract s (a+i0) j (by omega) hP,decode_ascii s _ hP (by omega),h10]
     rw [if_pos hj,hdec];refine ⟨[],j,32,by simp,by rw [hend];rfl⟩
    ·have hj:¬ j<(s.extract (a+i0) s.size).size:=by omega
     rw [if_neg hj];exact ⟨_,_,_,rfl,by rw [show i0+(s.extract (a+i0) s.size).size=(s.extract a e).size by omega];rfl⟩
end
theorem indexByte_dot:∀ l:Bytes,Lib.indexByte l 46=optI (dotL l)
 | []=>rfl
 | c::r=>by
   have ih:=indexByte_dot r;unfold Lib.indexByte dotL
   by_cases hc:c.toNat=46
   ·have:c=46:=UInt8.toNat.inj hc;rw [if_pos hc,if_pos (by rw [this];rfl)];rfl
   ·rw [if_neg hc,if_neg (by intro h;rw [beq_iff_eq] at h;subst h;exact hc rfl),ih]
    cases hd:dotL r with
    | none=>simp [optI]
    | some d=>
      show (if ((d:Int) == -1)=true then (-1:Int) else (d:Int)+1)=((d+1:Nat):Int)
      have h:((d:Int) == -1)=false:=by rw [beq_eq_false_iff_ne];omega
      rw [h];simp
theorem indexB_dot (s:ByteArray):Lib.indexB s ⟨#[46]⟩=optI (dotL (bs s)):=by
 rw [← indexByte_dot,← Lib.index_one];rfl
theorem parts_rec (s:ByteArray):partsD s=match dotL (bs s) with
  | none=>[s]
  | some d=>s.extract 0 d::partsD (s.extract (d+1) s.size):=by
 unfold partsD;have hi:=indexB_dot s
 cases hd:dotL (bs s) with
 | none=>
   rw [hd] at hi;rw [Lib.splitB_miss _ _ _ _ hi]
 | some d=>
   rw [hd] at hi;have hi':Lib.indexB s ⟨#[46]⟩=(d:Int):=hi;have h1:=Lib.countB_hit s ⟨#[46]⟩ d (by decide) hi'
   rw [h1,Nat.add_comm 1,Lib.splitB_hit _ _ _ _ _ hi']
   rfl
theorem dot_not_dec:∀ (l:Bytes)(d:Nat),dotL l=some d→allOf l decCs=false
 | [],d,h=>by simp [dotL] at h
 | c::r,d,h=>by
   unfold dotL at h
   split at h
   ·rename_i hc;have:c=46:=UInt8.toNat.inj hc;subst this;rw [allOf_dec];rfl
   ·obtain ⟨e,he,_⟩:=Option.map_eq_some_iff.1 h;have:=dot_not_dec r e he;rw [allOf_dec] at this ⊢
    simp [this]
theorem quad_same:∀ (r v:Nat)(s:ByteArray),quadR (r+1) v (bs s)=if (partsD s).length=r+1 then quadFold v (partsD s) else none
 | 0,v,s=>by
   rw [parts_rec s]
   show (match decS (bs s) 255 with|none=>none|some x=>some (256*v+x))=_
   cases hd:dotL (bs s) with
   | none=>
     show _=quadFold v [s]
     simp only [quadFold]
     cases decS (bs s) 255 with
     | none=>rfl
     | some x=>simp [Nat.mul_comm]
   | some d=>
     dsimp only;rw [decS_none3 (dot_not_dec _ _ hd),if_neg];have:1≤(partsD (s.extract (d+1) s.size)).length:=by rw [partsD_length];omega
     simp;intro h;rw [h] at this;simp at this
 | r+1,v,s=>by
   rw [parts_rec s]
   show (match dotL (bs s) with|none=>none|some d=>match decS ((bs s).take d) 255 with|none=>none|some x=>quadR (r+1) (256*v+x) ((bs s).drop (d+1)))=_
   cases hd:dotL (bs s) with
   | none=>
     dsimp only;rw [if_neg (by simp)]
   | some d=>
     dsimp only;have e1:bs (s.extract 0 d)=(bs s).take d:=bs_take s d;have e2:bs (s.extract (d+1) s.size)=(bs s).drop (d+1):=bs_from s (d+1);simp only [quadFold,e1,List.length_cons,Nat.add_right_cancel_iff]
     cases decS ((bs s).take d) 255 with
     | none=>simp
     | some x=>
       dsimp only;rw [← e2,quad_same r (256*v+x) (s.extract (d+1) s.size),Nat.mul_comm 256 v]
theorem hexR_same:∀ (D:Bytes)(n:Nat),hexR n D=if D.all hexU=true then some (hexFold n D) else none
 | [],n=>rfl
 | c::D,n=>by
   obtain ⟨a1,a2⟩:=hexI_hexU c;unfold hexR
   cases hc:hexU c
   ·rw [if_pos (a2 hc),if_neg (by simp [hc])]
   ·obtain ⟨h1,h2⟩:=a1 hc;rw [if_neg (by omega),h1,Int.toNat_natCast,hexR_same D]
    simp [hc,hexFold]
theorem binU (c:UInt8):(hexU c && decide (hexVal c.toNat<2))=decide (c.toNat=48∨c.toNat=49):=
 u8_all (p:=fun c=>hexU c && decide (hexVal c.toNat<2)) (q:=fun c=>decide (c.toNat=48∨c.toNat=49)) (by decide +kernel) c
theorem binR_same:∀ (D:Bytes)(n:Nat),binR n D=if D.all hexU=true then basedFrom 2 n D else none
 | [],n=>rfl
 | c::D,n=>by
   have hb:=binU c;unfold binR basedFrom;rw [binR_same D]
   by_cases hc:c.toNat=48∨c.toNat=49
   ·rw [decide_eq_true hc,Bool.and_eq_true,decide_eq_true_eq] at hb;rw [if_pos hc,if_pos hb.2];have:hexVal c.toNat=c.toNat-48:=by unfold hexVal;rw [if_pos (by omega)]
    simp only [List.all_cons,hb.1,Bool.true_and,this,Nat.mul_comm]
   ·rw [decide_eq_false hc,Bool.and_eq_false_iff] at hb;rw [if_neg hc];rcases hb with hb|hb
    ·rw [if_neg (by simp [hb])]
    ·rw [decide_eq_false_iff_not] at hb;rw [if_neg hb];simp
theorem basedS_bin (D:Bytes):basedS 2 32 D=if D≠[]∧D.length≤32 then binR 0 D else none:=by
 rw [binR_same];unfold basedS;rw [allOf_hex]
 by_cases h:D=[]∨32<D.length
 ·rw [if_pos h,if_neg (by rintro ⟨a,b⟩;rcases h with h|h;exact a h;omega)]
 ·rw [if_neg h,if_pos (show D≠[]∧D.length≤32 from ⟨fun x=>h (.inl x),by omega⟩)]
  cases D.all hexU<;>simp
theorem pre_two (s:ByteArray)(x y:UInt8):Lib.hasPrefix (bs s) [x,y]=true↔s.extract 0 2=⟨#[x,y]⟩:=by
 constructor
 ·intro h;obtain ⟨r,hr⟩:=List.isPrefixOf_iff_prefix.1 h;apply bs_inj;rw [bs_take,← hr];rfl
 ·intro h;have:=congrArg bs h;rw [bs_take] at this;exact List.isPrefixOf_iff_prefix.2 ⟨(bs s).drop 2,by rw [show [x,y]=bs ⟨#[x,y]⟩ from rfl,← this,List.take_append_drop]⟩
theorem dec_pre (s:ByteArray)(x y:UInt8)(top:Nat)(h:s.extract 0 2=⟨#[x,y]⟩)(hy:digitU y=false):decS (bs s) top=none:=by
 apply decS_none3;rw [allOf_dec];have:=congrArg bs h;rw [bs_take] at this;rw [← List.take_append_drop 2 (bs s),this]
 show List.all (x::y::(bs s).drop 2) digitU=false
 simp [hy]
theorem dot_some {l:Bytes}:((dotL l).isSome=true)↔0≤Lib.indexByte l 46:=by
 rw [indexByte_dot]
 cases dotL l with
 | none=>simp [optI]
 | some d=>simp [optI]
theorem quadR_S (s:ByteArray):quadR 4 0 (bs s)=quadS s:=quad_same 3 0 s
theorem numR_same (s:ByteArray):numR s=numS s:=by
 unfold numR numS
 by_cases hd:(dotL (bs s)).isSome=true
 ·rw [if_pos hd,if_pos (dot_some.1 hd),quadR_S]
 rw [if_neg hd,if_neg (fun h=>hd (dot_some.2 h))]
 have hl:((bs s).drop 2).length=s.size-2:=by simp [bs_length]
 by_cases hx:s.extract 0 2=zxB
 ·rw [if_pos (show Lib.hasPrefix (bs s) zx=true from (pre_two s 48 120).2 hx),basedS_hex]
  have hnb:s.extract 0 2≠zbB:=by rw [hx];decide
  by_cases hs:3≤s.size∧s.size≤10
  ·rw [if_pos ⟨hs.1,hs.2,hx⟩,hexR_same];have:(bs s).drop 2≠[]:=by intro h;rw [h] at hl;simp at hl;omega
   by_cases ha:((bs s).drop 2).all hexU=true
   ·rw [if_pos ha,if_pos ⟨this,by omega,ha⟩]
   ·rw [if_neg ha,if_neg (fun h=>ha h.2.2)]
  ·rw [if_neg (fun h=>hs ⟨h.1,h.2.1⟩),if_neg (fun h=>hnb h.2.2),dec_pre s 48 120 _ hx (by decide),if_neg]
   rintro ⟨h1,h2,_⟩;have:=List.length_pos_iff.2 h1;omega
 ·rw [if_neg (fun h=>hx h.2.2),if_neg (show ¬ Lib.hasPrefix (bs s) zx=true from fun h=>hx ((pre_two s 48 120).1 h))]
  by_cases hb:s.extract 0 2=zbB
  ·rw [if_pos (show Lib.hasPrefix (bs s) zb=true from (pre_two s 48 98).2 hb),basedS_bin]
   by_cases hs:3≤s.size∧s.size≤34
   ·rw [if_pos ⟨hs.1,hs.2,hb⟩,if_pos ⟨by intro h;rw [h] at hl;simp at hl;omega,by omega⟩]
   ·rw [if_neg (fun h=>hs ⟨h.1,h.2.1⟩),dec_pre s 48 98 _ hb (by decide),if_neg]
    rintro ⟨h1,h2⟩;have:=List.length_pos_iff.2 h1;omega
  ·rw [if_neg (fun h=>hb h.2.2),if_neg (show ¬ Lib.hasPrefix (bs s) zb=true from fun h=>hb ((pre_two s 48 98).1 h))]
def EndE (E:Bytes):Prop:=E=[]∨∃ r,E=10::r
theorem end_of {s:ByteArray}{a e:Nat}(L:LineIn s a e):EndE ((bs s).drop e):=by
 by_cases h:e<s.size
 ·exact .inr ⟨(bs s).drop (e+1),by rw [bs_drop s e h,UInt8.toNat.inj (show s[e].toNat=(10:UInt8).toNat from L.fin h)]⟩
 ·exact .inl (bs_drop_end s e h)
section
variable {E:Bytes} (hE:EndE E)
include hE
theorem word_end:∀ l:Bytes,wordLen (l++E)=wordLen l
 | []=>by
   rcases hE with rfl|⟨r,rfl⟩
   ·rfl
   ·rfl
 | c::l=>by
   rw [List.cons_append];unfold wordLen;rw [word_end l]
theorem cls_end (l:Bytes)(k:Int)(hk:k≠1∧k≠3):classL (l++E)=k↔classL l=k:=by
 cases l with
 | nil=>
   rcases hE with rfl|⟨r,rfl⟩
   ·exact Iff.rfl
   ·constructor
    ·intro h;exact absurd h.symm hk.2
    ·intro h;exact absurd h.symm hk.1
 | cons c l=>exact Iff.rfl
theorem num_end:∀ l:Bytes,numLen (l++E)=numLen l
 | []=>by
   rcases hE with rfl|⟨r,rfl⟩
   ·rfl
   ·rfl
 | c::l=>by
   rw [List.cons_append];unfold numLen;rw [num_end l]
   have:(classL (l++E) == 6)=(classL l == 6):=by
    rw [Bool.eq_iff_iff];simp only [beq_iff_eq];exact cls_end hE l 6 ⟨by decide,by decide⟩
   rw [this]
theorem nameP_end (l:Bytes):nameP (l++E)=nameP l:=by
 unfold nameP;have hw:=word_end hE l;rw [hw]
 by_cases h:wordLen l<l.length
 ·rw [List.drop_append_of_le_length (by omega),List.drop_append_of_le_length (by omega),word_end hE]
  have h5:=cls_end hE (l.drop (wordLen l+1)) 5 ⟨by decide,by decide⟩
  have hh:(l.drop (wordLen l)++E).head?=(l.drop (wordLen l)).head?:=by
   have:l.drop (wordLen l)≠[]:=by intro h2;have:=congrArg List.length h2;simp at this;omega
   cases hd:l.drop (wordLen l) with
   | nil=>exact absurd hd this
   | cons c r=>rfl
  simp only [hh,h5]
 ·have hle:=wordLen_le l;have he:wordLen l=l.length:=by omega
  have e1:(l++E).drop (wordLen l)=E:=by rw [he];simp
  have e2:l.drop (wordLen l)=[]:=by rw [he];simp
  have hno:¬ (((l++E).drop (wordLen l)).head?.map (·.toNat)=some 46∧classL ((l++E).drop (wordLen l+1))=5):=by
   rintro ⟨h1,_⟩;rw [e1] at h1;rcases hE with rfl|⟨r,rfl⟩
   ·simp at h1
   ·simp at h1
  have hno2:¬ ((l.drop (wordLen l)).head?.map (·.toNat)=some 46∧classL (l.drop (wordLen l+1))=5):=by
   rintro ⟨h1,_⟩;rw [e2] at h1;simp at h1
  rw [if_neg hno,if_neg hno2]
end
theorem dotted_L (s:ByteArray)(j:Nat):dotted s j=true↔(((bs s).drop j).head?.map (·.toNat)=some 46∧classL ((bs s).drop (j+1))=5):=by
 unfold dotted;rw [List.head?_drop]
 cases h1:(bs s)[j]? with
 | none=>simp
 | some x=>
   cases h2:(bs s)[j+1]? with
   | none=>
     have:(bs s).drop (j+1)=[]:=List.drop_eq_nil_of_le (List.getElem?_eq_none_iff.1 h2);rw [this];simp [classL]
   | some y=>
     have h3:=List.getElem?_eq_some_iff.1 h2;have:(bs s).drop (j+1)=y::(bs s).drop (j+2):=by rw [List.drop_eq_getElem_cons h3.1,h3.2]
     rw [this];have hc:=class_letter y.toNat
     show _↔(some x.toNat=some 46∧classN y.toNat=5)
     rw [hc];simp
def AsP (q:Int×Int×Int×Int)(i:Nat)(x:Int×Nat×Int):Prop:=
 (x.2.2≠0→q=(0,0,(x.2.1:Int)-i,x.2.2))∧(x.2.2=0→q=(x.1,(x.2.1:Int)-i,0,0))
theorem asP_err {q:Int×Int×Int×Int}{i:Nat}{off c:Int}{k:Nat}(h:q=(0,0,off,c))(hk:(k:Int)-i=off)(hc:c≠0):AsP q i (0,k,c):=
 ⟨fun _=>by rw [h,← hk],fun h0=>absurd h0 hc⟩
theorem asP_tok {q:Int×Int×Int×Int}{i:Nat}{sz kd:Int}{k:Nat}(h:q=(kd,sz,0,0))(hk:(k:Int)-i=sz):AsP q i (kd,k,0):=
 ⟨fun h0=>absurd rfl h0,fun _=>by rw [h,← hk]⟩
theorem name_same (s:ByteArray)(i:Nat):AsP (nameP ((bs s).drop i)) i (tokName s i):=by
 unfold tokName tokNameJ nameP;have hj:runE s i=i+wordLen ((bs s).drop i):=rfl;rw [hj];generalize wordLen ((bs s).drop i)=k;have hd:=dotted_L s (i+k);have e3:runE s (i+k+1)=i+k+1+wordLen ((bs s).drop (i+k+1)):=rfl;rw [List.drop_drop,List.drop_drop,← Nat.add_assoc,e3]
 by_cases h:24<k
 ·rw [if_pos h,if_pos (show 24<i+k-i by omega)]
  exact asP_err rfl (by omega) (by decide)
 rw [if_neg h,if_neg (show ¬ 24<i+k-i by omega)]
 by_cases hc:((bs s).drop (i+k)).head?.map (·.toNat)=some 46∧classL ((bs s).drop (i+k+1))=5
 ·rw [if_pos hc,if_neg (show ¬ dotted s (i+k)=false by rw [hd.2 hc];decide)]
  by_cases h2:24<wordLen ((bs s).drop (i+k+1))
  ·rw [if_pos h2,if_pos (show 24<i+k+1+wordLen ((bs s).drop (i+k+1))-(i+k)-1 by omega)]
   exact asP_err rfl (by omega) (by decide)
  ·rw [if_neg h2,if_neg (show ¬ 24<i+k+1+wordLen ((bs s).drop (i+k+1))-(i+k)-1 by omega)]
   exact asP_tok rfl (by omega)
 ·rw [if_neg hc,if_pos (show dotted s (i+k)=false from by
   cases hx:dotted s (i+k)
   ·rfl
   ·exact absurd (hd.1 hx) hc)]
  exact asP_tok rfl (by omega)
theorem bs_sub (s:ByteArray)(a e i k:Nat):bs ((s.extract a e).extract i (i+k))=((bs (s.extract a e)).drop i).take k:=by
 rw [bs_extract,Nat.add_sub_cancel_left]
theorem num_same {s:ByteArray}{a e:Nat}(L:LineIn s a e)(i:Nat)(hi:i≤(s.extract a e).size) :
  AsP (match numS ((s.extract (a+i) s.size).extract 0 (numLen (bs (s.extract (a+i) s.size)))) with|some _=>q4 4 (numLen (bs (s.extract (a+i) s.size))) 0 0|none=>q4 0 0 0 31) i (tokNum (s.extract a e) i):=by
 have hE:=end_of L;have hb:bs (s.extract (a+i) s.size)=(bs (s.extract a e)).drop i++(bs s).drop e:=by rw [bs_from,line_rest L i hi]
 have hn:numLen (bs (s.extract (a+i) s.size))=numLen ((bs (s.extract a e)).drop i):=by rw [hb,num_end hE]
 have hle:=numLen_le ((bs (s.extract a e)).drop i)
 have hx:(s.extract (a+i) s.size).extract 0 (numLen (bs (s.extract (a+i) s.size)))=(s.extract a e).extract i (numE (s.extract a e) i):=by
  apply bs_inj;unfold numE;rw [bs_take,bs_sub,hn,hb,List.take_append_of_le_length hle]
 rw [hx,hn];unfold tokNum;rw [numR_same]
 cases numS ((s.extract a e).extract i (numE (s.extract a e) i)) with
 | none=>exact asP_err rfl (by omega) (by decide)
 | some v=>
   rw [if_pos (show (some v).isSome=true from rfl)]
   exact asP_tok rfl (by unfold numE;omega)
theorem pat_same {s:ByteArray}{a e:Nat}(L:LineIn s a e)(i:Nat)(hi:i<(s.extract a e).size)(h37:(s.extract a e)[i].toNat=37) :
  AsP (if patS (bs ((s.extract (a+i) s.size).extract 1 (1+wordLen (bs ((s.extract (a+i) s.size).extract 1 (s.extract (a+i) s.size).size))))) then q4 5 ((1:Nat)+wordLen (bs ((s.extract (a+i) s.size).extract 1 (s.extract (a+i) s.size).size)):Nat) 0 0 else q4 0 0 0 44) i (tokPat (s.extract a e) i):=by
 have hE:=end_of L;have hb:bs (s.extract (a+i) s.size)=(bs (s.extract a e)).drop i++(bs s).drop e:=by rw [bs_from,line_rest L i (by omega)]
 have hd:=bs_drop (s.extract a e) i hi
 have h1:bs ((s.extract (a+i) s.size).extract 1 (s.extract (a+i) s.size).size)=(bs (s.extract a e)).drop (i+1)++(bs s).drop e:=by
  rw [bs_from,hb,hd];rfl
 have hw:wordLen (bs ((s.extract (a+i) s.size).extract 1 (s.extract (a+i) s.size).size))=wordLen ((bs (s.extract a e)).drop (i+1)):=by rw [h1,word_end hE]
 have hle:=wordLen_le ((bs (s.extract a e)).drop (i+1))
 have h2:bs ((s.extract (a+i) s.size).extract 1 (1+wordLen ((bs (s.extract a e)).drop (i+1))))=((bs (s.extract a e)).drop (i+1)).take (wordLen ((bs (s.extract a e)).drop (i+1))):=by
  rw [bs_extract,Nat.add_sub_cancel_left,hb,hd,List.cons_append,List.drop_succ_cons,List.drop_zero,List.take_append_of_le_length hle]
 have h3:bs ((s.extract a e).extract i (runE (s.extract a e) (i+1)))=(s.extract a e)[i]::((bs (s.extract a e)).drop (i+1)).take (wordLen ((bs (s.extract a e)).drop (i+1))):=by
  unfold runE;rw [show i+1+wordLen ((bs (s.extract a e)).drop (i+1))=i+(wordLen ((bs (s.extract a e)).drop (i+1))+1) by omega,bs_sub,hd,List.take_succ_cons]
 rw [hw,h2];unfold tokPat
 have h4:isPatR (bs ((s.extract a e).extract i (runE (s.extract a e) (i+1))))=patS (((bs (s.extract a e)).drop (i+1)).take (wordLen ((bs (s.extract a e)).drop (i+1)))):=by
  rw [h3]
  show ((s.extract a e)[i].toNat == 37 && patS _)=_
  rw [h37];rfl
 rw [h4]
 by_cases hp:patS (((bs (s.extract a e)).drop (i+1)).take (wordLen ((bs (s.extract a e)).drop (i+1))))=true
 ·rw [if_pos hp,if_pos hp];exact asP_tok rfl (by unfold runE;omega)
 ·rw [if_neg hp,if_neg hp];exact asP_err rfl (by omega) (by decide)
theorem quo_same {s:ByteArray}{a e:Nat}(L:LineIn s a e)(hn:∀ k (h:k<s.size),a≤k→k<e→s[k].toNat≠10)(i:Nat)(hi:i<(s.extract a e).size)(t:ByteArray)(ht:t=s.extract (a+i) s.size) :
  AsP (if (speakS t true (t.size+1) 1 []).2.2=0 then
   (if 256<(speakS t true (t.size+1) 1 []).1.length then q4 0 0 0 37 else q4 6 (speakS t true (t.size+1) 1 []).2.1 0 0)
  else q4 0 0 (speakS t true (t.size+1) 1 []).2.1 (speakS t true (t.size+1) 1 []).2.2) i (tokQuo (s.extract a e) i):=by
 have hz:=line_size L;have hes:=L.es;have htz:=rest_size s (a+i) (by omega)
 obtain ⟨r,k,c,e1,e2⟩:=ins_speak L i true (fun _=>hn) (fun h=>by cases h) (t.size+1) ((s.extract a e).size+1) 1 [] (by omega) (by rw [ht];omega) (by omega)
 rw [← ht] at e1;have e2':insR (s.extract a e) ((s.extract a e).size+1) (i+1) ⟨#[]⟩=(strOfNums r,i+k,c):=e2;unfold tokQuo;rw [e1,e2'];dsimp only;rw [strOfNums_size]
 by_cases hc:c=0
 ·rw [if_pos hc,if_neg (show ¬ c≠0 from fun h=>h hc)]
  by_cases hl:256<r.length
  ·rw [if_pos hl,if_pos hl];exact asP_err rfl (by omega) (by decide)
  ·rw [if_neg hl,if_neg hl];exact asP_tok rfl (by omega)
 ·rw [if_neg hc,if_pos (show c≠0 from hc)]
  exact asP_err rfl (by omega) hc
def signsL:List Bytes:=signsB.map bs
def twoL:List Bytes:=[[33,61],[60,61],[62,61],[46,46],[45,62]]
def oneL:List Bytes:=[[40],[41],[33],[61],[60],[62],[38],[124],[44],[58],[47]]
theorem signsL_eq:signsL=twoL++oneL:=rfl
def sF (l:Bytes):List Bytes→Nat
 | []=>0
 | g::r=>if g.isPrefixOf l=true then g.length else sF l r
theorem pre_ext (s g:ByteArray):(g.size≤s.size∧s.extract 0 g.size=g)↔(bs g).isPrefixOf (bs s)=true:=by
 rw [List.isPrefixOf_iff_prefix];constructor
 ·rintro ⟨h1,h2⟩;have:=congrArg bs h2;rw [bs_take] at this;exact ⟨(bs s).drop g.size,by rw [← this];simp⟩
 ·rintro ⟨r,hr⟩;refine ⟨?_,?_⟩
  ·have:=congrArg List.length hr;rw [List.length_append,bs_length,bs_length] at this;omega
  ·apply bs_inj;rw [bs_take,← hr,← bs_length g,List.take_left]
theorem signFrom_L (s:ByteArray):∀ l:List ByteArray,signFrom s l=sF (bs s) (l.map bs)
 | []=>rfl
 | g::r=>by
   unfold signFrom;simp only [List.map_cons,sF,pre_ext,signFrom_L s r,bs_length]
theorem isSign_L (s:ByteArray):isSignS s=signsL.any (· == bs s):=by
 unfold isSignS signsL;rw [List.any_map]
 congr 1
 funext g
 rw [Bool.eq_iff_iff];simp only [decide_eq_true_eq,Function.comp,beq_iff_eq];exact ⟨fun h=>by rw [h],fun h=>bs_inj h⟩
theorem sF_skip (l:Bytes)(k:Nat):∀ (gs rest:List Bytes),(∀ g,g∈gs→g.length=k)→sF l (gs++rest)=if gs.any (fun g=>g == l.take k)=true then k else sF l rest
 | [],rest,h=>by simp
 | g::gs,rest,h=>by
   have hg:=h g (by simp)
   have ih:=sF_skip l k gs rest (fun x hx=>h x (by simp [hx]))
   rw [List.cons_append,sF,ih]
   have hp:g.isPrefixOf l=true↔g=l.take k:=by
    rw [List.isPrefixOf_iff_prefix,List.prefix_iff_eq_take,hg]
   by_cases hc:g=l.take k
   ·rw [if_pos (hp.2 hc),if_pos (by simp [← hc]),hg]
   ·rw [if_neg (fun h=>hc (hp.1 h))]
    have:(g == l.take k)=false:=by rw [beq_eq_false_iff_ne];exact hc
    simp only [List.any_cons,this,Bool.false_or]
theorem one_any (b c:UInt8):oneL.any (fun g=>g == [b,c])=false:=by simp [oneL]
theorem two_any (b:UInt8):twoL.any (fun g=>g == [b])=false:=by simp [twoL]
theorem two_ten (b:UInt8):twoL.any (fun g=>g == [b,10])=false:=by simp [twoL]
theorem sign_same {s:ByteArray}{a e:Nat}(L:LineIn s a e)(i:Nat)(hi:i<(s.extract a e).size) :
  AsP (if signFrom (s.extract (a+i) s.size) signsB=0 then q4 0 0 0 30 else q4 7 (signFrom (s.extract (a+i) s.size) signsB) 0 0) i (tokSign (s.extract a e) i):=by
 have hE:=end_of L;have hb:bs (s.extract (a+i) s.size)=(bs (s.extract a e)).drop i++(bs s).drop e:=by rw [bs_from,line_rest L i (by omega)]
 have hd:=bs_drop (s.extract a e) i hi;have hs:=signFrom_L (s.extract (a+i) s.size) signsB;rw [show signsB.map bs=twoL++oneL from rfl,sF_skip _ 2 twoL oneL (by decide),← List.append_nil oneL,sF_skip _ 1 oneL [] (by decide),show sF (bs (s.extract (a+i) s.size)) []=0 from rfl] at hs
 have e1:bs ((s.extract a e).extract i (i+1))=[(s.extract a e)[i]]:=by rw [bs_sub,hd];rfl
 have t1:(bs (s.extract (a+i) s.size)).take 1=[(s.extract a e)[i]]:=by rw [hb,hd];rfl
 have s1:isSignS ((s.extract a e).extract i (i+1))=oneL.any (fun g=>g == [(s.extract a e)[i]]):=by
  rw [isSign_L,e1,signsL_eq,List.any_append,two_any,Bool.false_or]
 rw [t1,← s1] at hs
 have hs2:signFrom (s.extract (a+i) s.size) signsB=if i+2≤(s.extract a e).size∧isSignS ((s.extract a e).extract i (i+2))=true then 2 else if isSignS ((s.extract a e).extract i (i+1))=true then 1 else 0:=by
  rw [hs]
  by_cases h2:i+1<(s.extract a e).size
  ·have hd2:=bs_drop (s.extract a e) (i+1) h2;have e2:bs ((s.extract a e).extract i (i+2))=[(s.extract a e)[i],(s.extract a e)[i+1]]:=by rw [bs_sub,hd,hd2];rfl
   have t2:(bs (s.extract (a+i) s.size)).take 2=[(s.extract a e)[i],(s.extract a e)[i+1]]:=by rw [hb,hd,hd2];rfl
   have s2:isSignS ((s.extract a e).extract i (i+2))=twoL.any (fun g=>g == [(s.extract a e)[i],(s.extract a e)[i+1]]):=by
    rw [isSign_L,e2,signsL_eq,List.any_append,one_any,Bool.or_false]
   rw [t2,← s2]
   by_cases hc:isSignS ((s.extract a e).extract i (i+2))=true
   ·rw [if_pos hc,if_pos (show i+2≤(s.extract a e).size∧isSignS ((s.extract a e).extract i (i+2))=true from ⟨by omega,hc⟩)]
   ·rw [if_neg hc,if_neg (show ¬ (i+2≤(s.extract a e).size∧isSignS ((s.extract a e).extract i (i+2))=true) from fun h=>hc h.2)]
  ·have hnil:(bs (s.extract a e)).drop (i+1)=[]:=bs_drop_end _ _ h2
   have hn:twoL.any (fun g=>g == (bs (s.extract (a+i) s.size)).take 2)=false:=by
    rw [hb,hd,hnil];rcases hE with h|⟨r,h⟩
    ·rw [h];exact two_any _
    ·rw [h];exact two_ten _
   rw [hn,if_neg (by decide),if_neg (show ¬ (i+2≤(s.extract a e).size∧isSignS ((s.extract a e).extract i (i+2))=true) from fun h=>by omega)]
 rw [hs2];unfold tokSign
 by_cases hc:i+2≤(s.extract a e).size∧isSignS ((s.extract a e).extract i (i+2))=true
 ·rw [if_pos hc,if_pos hc,if_neg (by decide)]
  exact asP_tok rfl (by omega)
 ·rw [if_neg hc,if_neg hc]
  by_cases h1:isSignS ((s.extract a e).extract i (i+1))=true
  ·rw [if_pos h1,if_neg (by decide),if_pos (show i+1≤(s.extract a e).size∧isSignS ((s.extract a e).extract i (i+1))=true from ⟨by omega,h1⟩)]
   exact asP_tok rfl (by omega)
  ·rw [if_neg h1,if_pos rfl,if_neg (show ¬ (i+1≤(s.extract a e).size∧isSignS ((s.extract a e).extract i (i+1))=true) from fun h=>h1 h.2)]
   exact asP_err rfl (by omega) (by decide)
theorem pieceS5 {t:ByteArray}(h:classL (bs t)=5):pieceS t=nameP (bs t):=by
 unfold pieceS;rw [if_pos h]
theorem pieceS6 {t:ByteArray}(h:classL (bs t)=6):pieceS t=(match numS (t.extract 0 (numLen (bs t))) with|some _=>q4 4 (numLen (bs t)) 0 0|none=>q4 0 0 0 31):=by
 unfold pieceS;rw [if_neg (by rw [h];decide),if_pos h];rfl
theorem pieceS7 {t:ByteArray}(h:classL (bs t)=7):pieceS t=(if patS (bs (t.extract 1 (1+wordLen (bs (t.extract 1 t.size))))) then q4 5 ((1:Nat)+wordLen (bs (t.extract 1 t.size)):Nat) 0 0 else q4 0 0 0 44):=by
 unfold pieceS;rw [if_neg (show ¬ classL (bs t)=5 by rw [h];decide),if_neg (show ¬ classL (bs t)=6 by rw [h];decide),if_pos h]
theorem pieceS8 {t:ByteArray}(h:classL (bs t)=8):pieceS t=(if (speakS t true (t.size+1) 1 []).2.2=0 then
   (if 256<(speakS t true (t.size+1) 1 []).1.length then q4 0 0 0 37 else q4 6 (speakS t true (t.size+1) 1 []).2.1 0 0)
  else q4 0 0 (speakS t true (t.size+1) 1 []).2.1 (speakS t true (t.size+1) 1 []).2.2):=by
 unfold pieceS;rw [if_neg (show ¬ classL (bs t)=5 by rw [h];decide),if_neg (show ¬ classL (bs t)=6 by rw [h];decide),if_neg (show ¬ classL (bs t)=7 by rw [h];decide),if_pos h]
theorem pieceS0 {t:ByteArray}(h5:¬ classL (bs t)=5)(h6:¬ classL (bs t)=6)(h7:¬ classL (bs t)=7)(h8:¬ classL (bs t)=8) :
  pieceS t=(if signFrom t signsB=0 then q4 0 0 0 30 else q4 7 (signFrom t signsB) 0 0):=by
 unfold pieceS;rw [if_neg h5,if_neg h6,if_neg h7,if_neg h8]
def tokRb (s:ByteArray)(i n:Nat):Int×Nat×Int:=
 if letterN n=true then tokName s i else if digitN n=true then tokNum s i else if n=37 then tokPat s i else if n=34 then tokQuo s i else tokSign s i
theorem tokR_b (s:ByteArray)(i:Nat)(h:i<s.size):tokR s i=tokRb s i s[i].toNat:=by
 unfold tokR;rw [bs_get s i h];rfl
theorem class_pat (n:Nat):classN n=7↔n=37:=by unfold classN;(repeat' split)<;>omega
theorem class_quo (n:Nat):classN n=8↔n=34:=by unfold classN;(repeat' split)<;>omega
theorem piece_same {s:ByteArray}{a e:Nat}(L:LineIn s a e)(hn:∀ k (h:k<s.size),a≤k→k<e→s[k].toNat≠10)(i:Nat)(hi:i<(s.extract a e).size) :
  AsP (pieceS (s.extract (a+i) s.size)) i (tokR (s.extract a e) i):=by
 have hE:=end_of L;have hb:bs (s.extract (a+i) s.size)=(bs (s.extract a e)).drop i++(bs s).drop e:=by rw [bs_from,line_rest L i (by omega)]
 have hd:=bs_drop (s.extract a e) i hi;have hc:classL (bs (s.extract (a+i) s.size))=classN (s.extract a e)[i].toNat:=by rw [hb,hd];rfl
 rw [tokR_b _ i hi];have h37:=pat_same L i hi;have hN:=name_same (s.extract a e) i;have hM:=num_same L i (by omega)
 have hQ:=quo_same L hn i hi _ rfl;have hS:=sign_same L i hi;rw [← nameP_end hE,← hb] at hN;generalize (s.extract a e)[i].toNat=n at *;have hl:=class_letter n;have hg:=class_digit n;have h7:=class_pat n;have h8:=class_quo n;rw [← hc] at hl hg h7 h8;unfold tokRb
 by_cases k5:letterN n=true
 ·rw [pieceS5 (hl.2 k5),if_pos k5];exact hN
 rw [if_neg k5]
 by_cases k6:digitN n=true
 ·rw [pieceS6 (hg.2 k6),if_pos k6];exact hM
 rw [if_neg k6]
 by_cases k7:n=37
 ·rw [pieceS7 (h7.2 k7),if_pos k7];exact h37 k7
 rw [if_neg k7]
 by_cases k8:n=34
 ·rw [pieceS8 (h8.2 k8),if_pos k8];exact hQ
 rw [if_neg k8,pieceS0 (fun h=>k5 (hl.1 h)) (fun h=>k6 (hg.1 h)) (fun h=>k7 (h7.1 h)) (fun h=>k8 (h8.1 h))]
 exact hS
theorem within_ext (s:ByteArray)(i j p k lo hi_:Nat)(hip:i≤p)(hj:j≤s.size):withinS (s.extract i j) (p-i+k) lo hi_=(decide (p+k<j) && withinS s (p+k) lo hi_):=by
 have hz:(s.extract i j).size=j-i:=by simp [ByteArray.size_extract];omega
 by_cases h:p+k<j
 ·have h1:(bs (s.extract i j))[p-i+k]?=(bs s)[p+k]?:=by
   rw [line_bs,List.getElem?_take,if_pos (by omega),List.getElem?_drop];congr 1;omega
  rw [decide_eq_true h,Bool.true_and];unfold withinS;rw [h1]
 ·rw [decide_eq_false h,Bool.false_and];exact withinS_out _ _ _ _ (by omega)
def pick (a c2 c3 c4 c5 c6 c7 c8:Bool):Nat:=
 if a=true then 1 else if c2=true then 2 else if c3=true then 3 else if c4=true then 3 else if c5=true then 3 else if c6=true then 4 else if c7=true then 4 else if c8=true then 4 else 1
theorem pick_all:∀ (a c2 c3 c4 c5 c6 c7 c8 d1 d2 d3:Bool),(2≤pick a c2 c3 c4 c5 c6 c7 c8→d1=true)→(3≤pick a c2 c3 c4 c5 c6 c7 c8→d2=true)→(4≤pick a c2 c3 c4 c5 c6 c7 c8→d3=true) →
  pick a (c2 && d1) (c3 && (d1 && d2)) (c4 && (d1 && d2)) (c5 && (d1 && d2)) (c6 && (d1 && (d2 && d3))) (c7 && (d1 && (d2 && d3))) (c8 && (d1 && (d2 && d3)))=pick a c2 c3 c4 c5 c6 c7 c8:=by decide +kernel
theorem sizeS_pick (s:ByteArray)(i:Nat)(b:UInt8)(h:(bs s)[i]?=some b):(sizeS s i).1=pick (decide (b.toNat<128)) (decide (194≤b.toNat) && decide (b.toNat≤223) && withinS s (i+1) 128 191)
  (decide (b.toNat=224) && withinS s (i+1) 160 191 && withinS s (i+2) 128 191) (decide (b.toNat=237) && withinS s (i+1) 128 159 && withinS s (i+2) 128 191)
  (decide (225≤b.toNat) && decide (b.toNat≤239) && !decide (b.toNat=237) && withinS s (i+1) 128 191 && withinS s (i+2) 128 191)
  (decide (b.toNat=240) && withinS s (i+1) 144 191 && withinS s (i+2) 128 191 && withinS s (i+3) 128 191)
  (decide (241≤b.toNat) && decide (b.toNat≤243) && withinS s (i+1) 128 191 && withinS s (i+2) 128 191 && withinS s (i+3) 128 191)
  (decide (b.toNat=244) && withinS s (i+1) 128 143 && withinS s (i+2) 128 191 && withinS s (i+3) 128 191):=by
 unfold sizeS;rw [h];dsimp only;simp only [apply_ite Prod.fst,pick,decide_eq_true_eq]
theorem and3 (A d w:Bool):(A && (d && w))=(A && w && d):=by cases A<;>cases d<;>cases w<;>rfl
theorem and5 (A d w e v:Bool):(A && (d && w) && (e && v))=(A && w && v && (d && e)):=by cases A<;>cases d<;>cases w<;>cases e<;>cases v<;>rfl
theorem and7 (A d w e v f u:Bool):(A && (d && w) && (e && v) && (f && u))=(A && w && v && u && (d && (e && f))):=by
 cases A<;>cases d<;>cases w<;>cases e<;>cases v<;>cases f<;>cases u<;>rfl
theorem sizeS_ext (s:ByteArray)(i j p:Nat)(hip:i≤p)(hp:p<j)(hj:j≤s.size)(hle:p+(sizeS s p).1≤j):(sizeS (s.extract i j) (p-i)).1=(sizeS s p).1:=by
 have h1:(bs (s.extract i j))[p-i]?=(bs s)[p]?:=by
  rw [line_bs,List.getElem?_take,if_pos (by omega),List.getElem?_drop];congr 1;omega
 have h2:=bs_get s p (by omega)
 rw [h2] at h1;rw [sizeS_pick s p _ h2] at hle;rw [sizeS_pick s p _ h2,sizeS_pick _ _ _ h1];rw [within_ext s i j p 1 128 191 hip hj,within_ext s i j p 1 160 191 hip hj,within_ext s i j p 1 128 159 hip hj,within_ext s i j p 1 144 191 hip hj,within_ext s i j p 1 128 143 hip hj,within_ext s i j p 2 128 191 hip hj,within_ext s i j p 3 128 191 hip hj];rw [and7,and7,and7,and5,and5,and5,and3];refine pick_all _ _ _ _ _ _ _ _ _ _ _ (fun h=>?_) (fun h=>?_) (fun h=>?_)<;>(rw [decide_eq_true_eq];omega)
inductive Steps (s:ByteArray):Nat→Nat→Nat→Prop
 | refl (i:Nat):Steps s i i 0
 | step {i j n:Nat}:i<s.size→Steps s (i+(sizeS s i).1) j n→Steps s i j (n+1)
theorem Steps.le {s:ByteArray}{i j n:Nat}(h:Steps s i j n):i≤j:=by
 induction h with
 | refl i=>exact Nat.le_refl _
 | step _ _ ih=>omega
theorem Steps.trans {s:ByteArray}{i j k n m:Nat}(h:Steps s i j n)(h2:Steps s j k m):Steps s i k (n+m):=by
 induction h with
 | refl i=>rw [Nat.zero_add];exact h2
 | step hi _ ih=>rw [Nat.add_right_comm];exact .step hi (ih h2)
theorem sizeS_asc (s:ByteArray)(i:Nat)(h:i<s.size)(ha:s[i].toNat<128):sizeS s i=(1,false):=by
 unfold sizeS;rw [bs_get s i h];dsimp only;rw [if_pos ha]
theorem steps_asc (s:ByteArray):∀ n i,(∀ c∈((bs s).drop i).take n,c.toNat<128)→i+n≤s.size→∃ m,Steps s i (i+n) m
 | 0,i,_,_=>⟨0,.refl i⟩
 | n+1,i,h,hs=>by
   have hd:=bs_drop s i (by omega)
   rw [hd,List.take_succ_cons] at h;obtain ⟨m,hm⟩:=steps_asc s n (i+1) (fun c hc=>h c (by simp [hc])) (by omega)
   refine ⟨m+1,.step (by omega) ?_⟩
   rw [sizeS_asc s i (by omega) (h _ (by simp)),show i+(n+1)=i+1+n by omega]
   exact hm
theorem steps_end (s:ByteArray):∀ f i,i≤s.size→s.size<i+f→∃ n,Steps s i s.size n
 | 0,i,h,hf=>by omega
 | f+1,i,h,hf=>by
   by_cases hi:i<s.size
   ·have h1:=(sizeS_pos s i).1;obtain ⟨n,hn⟩:=steps_end s f (i+(sizeS s i).1) (sizeS_le s i hi) (by omega)
    exact ⟨n+1,.step hi hn⟩
   ·have:i=s.size:=by omega
    exact ⟨0,this▸.refl _⟩
theorem col_steps {s:ByteArray}{a i n:Nat}(h:Steps s a i n):∀ f,i<a+f→colR s f a i=n+1:=by
 induction h with
 | refl i=>
   intro f hf
   cases f with
   | zero=>rfl
   | succ f=>unfold colR;rw [if_neg (by omega)]
 | @step i j n hi hs ih=>
   intro f hf;have h1:=(sizeS_pos s i).1;have h2:=hs.le
   cases f with
   | zero=>omega
   | succ f=>unfold colR;rw [if_pos (by omega),ih f (by omega)]
theorem colAt_steps {s:ByteArray}{i n:Nat}(h:Steps s 0 i n):colAt s i=n+1:=col_steps h _ (by omega)
theorem runes_steps {s:ByteArray}{p j n:Nat}(h:Steps s p j n):∀ i,i≤p→j≤s.size→runesFrom (s.extract i j) (p-i)=n:=by
 induction h with
 | refl p=>
   intro i hi hj;rw [runesFrom,dif_neg (by simp [ByteArray.size_extract];omega)]
 | @step p j n hp hs ih=>
   intro i hi hj;have h1:=(sizeS_pos s p).1;have h2:=hs.le;have hz:(s.extract i j).size=j-i:=by simp [ByteArray.size_extract];omega
   have hd:=(size_dec (s.extract i j) (p-i) (by omega)).1
   rw [sizeS_ext s i j p hi (by omega) hj h2] at hd
   rw [runesFrom,dif_pos (by omega),hd,show p-i+(sizeS s p).1=p+(sizeS s p).1-i by omega,ih i (by omega) hj,Nat.add_comm]
theorem col_add {s:ByteArray}{i j n m:Nat}(h:Steps s 0 i n)(h2:Steps s i j m)(hj:j≤s.size):colAt s j=colAt s i+runesFrom (s.extract i j) 0:=by
 have:=runes_steps h2 i (Nat.le_refl _) hj;rw [Nat.sub_self] at this;rw [colAt_steps h,colAt_steps (h.trans h2),this];omega
def Asc (l:Bytes):Prop:=∀ c∈l,c.toNat<128
theorem asc_cons {c:UInt8}{l:Bytes}(h:c.toNat<128)(hl:Asc l):Asc (c::l):=by
 intro x hx;rcases List.mem_cons.1 hx with rfl|hx
 ·exact h
 ·exact hl x hx
theorem asc_nil:Asc []:=fun _ h=>absurd h (by simp)
theorem wordU_asc {c:UInt8}(h:wordU c=true):c.toNat<128:=by
 simp only [wordU,letterU,digitU,letterN,digitN,Bool.or_eq_true,decide_eq_true_eq] at h;omega
theorem word_asc:∀ l:Bytes,Asc (l.take (wordLen l))
 | []=>asc_nil
 | c::l=>by
   unfold wordLen
   split
   ·rename_i h;rw [List.take_succ_cons];exact asc_cons (wordU_asc h) (word_asc l)
   ·exact asc_nil
theorem num_asc:∀ l:Bytes,Asc (l.take (numLen l))
 | []=>asc_nil
 | c::l=>by
   unfold numLen
   split
   ·rename_i h;rw [List.take_succ_cons];refine asc_cons ?_ (num_asc l);rw [Bool.or_eq_true,Bool.and_eq_true,beq_iff_eq] at h;rcases h with h|h
    ·exact wordU_asc h
    ·omega
   ·exact asc_nil
theorem hexI_asc {n:Nat}(h:¬ hexI n<0):n<128:=by
 unfold hexI at h;(repeat' split at h)<;>omega
theorem hexRun_asc:∀ (k n:Nat)(l:Bytes),Asc (l.take (hexRun k n l).1)
 | 0,n,l=>asc_nil
 | k+1,n,[]=>asc_nil
 | k+1,n,c::l=>by
   unfold hexRun
   split
   ·exact asc_nil
   ·rename_i h;exact asc_cons (hexI_asc h) (hexRun_asc k _ l)
theorem brc_asc (r:Bytes):(brcL r).1=0∨∃ n,(brcL r).1=n+4∧Asc (r.take (n+1)):=by
 unfold brcL
 split
 ·exact .inl rfl
 ·rename_i h;simp only [not_or,Classical.not_not] at h;refine .inr ⟨_,rfl,?_⟩;rw [List.take_add_one,h.2.1];intro c hc;rcases List.mem_append.1 hc with hc|hc
  ·exact hexRun_asc _ _ _ c hc
  ·simp at hc;subst hc;decide
theorem esc_asc (r:Bytes):Asc ((92::r).take (escRL (92::r)).1):=by
 match r with
 | []=>exact asc_nil
 | b::r=>
   have h2:b.toNat<128→Asc ((92::b::r).take 2):=fun hb=>asc_cons (by decide) (asc_cons hb asc_nil)
   show Asc ((92::b::r).take (escB b r).1)
   unfold escB
   split
   ·exact h2 (by omega)
   split
   ·exact h2 (by omega)
   split
   ·exact h2 (by omega)
   split
   ·exact h2 (by omega)
   split
   ·exact h2 (by omega)
   split
   ·match r with
    | []=>exact asc_nil
    | [_]=>exact asc_nil
    | x::y::r=>
      unfold xxL;dsimp only
      split
      ·rename_i hxy;exact asc_cons (by decide) (asc_cons (by omega) (asc_cons (hexI_asc (by omega)) (asc_cons (hexI_asc (by omega)) asc_nil)))
      ·exact asc_nil
   split
   ·match r with
    | []=>exact asc_nil
    | c::r=>
      unfold uuL;dsimp only
      split
      ·rename_i hc;subst hc;rcases brc_asc r with h|⟨n,h,ha⟩
       ·rw [h];exact asc_nil
       ·rw [h];exact asc_cons (by decide) (asc_cons (by omega) (asc_cons (by decide) ha))
      ·exact asc_nil
   ·exact asc_nil
theorem step_one {s:ByteArray}{i:Nat}(h:i<s.size)(ha:s[i].toNat<128):Steps s i (i+1) 1:=by
 refine .step h ?_;rw [sizeS_asc s i h ha];exact .refl _
theorem ins_steps (s:ByteArray):∀ (f j:Nat) (said:ByteArray),j≤s.size→s.size<j+f→∃ m,Steps s j (insR s f j said).2.1 m
 | 0,j,said,h,hf=>by omega
 | f+1,j,said,h,hf=>by
   unfold insR
   by_cases hj:j<s.size
   ·rw [dif_pos hj]
    by_cases h34:s[j].toNat=34
    ·rw [if_pos h34];exact ⟨1,step_one hj (by omega)⟩
    rw [if_neg h34]
    by_cases h92:s[j].toNat=92
    ·rw [if_pos h92]
     by_cases hk:(escR s j).1=0
     ·rw [if_pos hk];exact ⟨0,.refl _⟩
     ·rw [if_neg hk];have hd:=bs_drop s j hj;have hb:s[j]=92:=UInt8.toNat.inj h92;have hl:=escRL_len ((bs s).drop j);rw [List.length_drop,bs_length] at hl;have ha:=esc_asc ((bs s).drop (j+1));rw [← hb,← hd] at ha;rw [escR_list s j hj] at hk ⊢;obtain ⟨m,hm⟩:=steps_asc s _ j ha (by omega)
      obtain ⟨n,hn⟩:=ins_steps s f (j+(escRL ((bs s).drop j)).1) (said++strOfNums (escRL ((bs s).drop j)).2) (by omega) (by omega)
      exact ⟨m+n,hm.trans hn⟩
    rw [if_neg h92]
    by_cases hb:(sizeS s j).2=true∨s[j].toNat<32∨s[j].toNat=127
    ·rw [if_pos hb];exact ⟨0,.refl _⟩
    ·rw [if_neg hb];have h1:=(sizeS_pos s j).1;obtain ⟨n,hn⟩:=ins_steps s f (j+(sizeS s j).1) (said++s.extract j (j+(sizeS s j).1)) (sizeS_le s j hj) (by omega)
     exact ⟨n+1,.step hj hn⟩
   ·rw [dif_neg hj];have:j=s.size:=by omega
    exact ⟨0,this▸.refl _⟩
theorem run_steps (s:ByteArray)(i:Nat)(hi:i≤s.size):∃ m,Steps s i (runE s i) m:=by
 have:=wordLen_le ((bs s).drop i);rw [List.length_drop,bs_length] at this;exact steps_asc s _ i (word_asc _) (by omega)
theorem num_steps (s:ByteArray)(i:Nat)(hi:i≤s.size):∃ m,Steps s i (numE s i) m:=by
 have:=numLen_le ((bs s).drop i);rw [List.length_drop,bs_length] at this;exact steps_asc s _ i (num_asc _) (by omega)
theorem signs_asc:∀ g∈signsL,Asc g:=by
 have h:∀ g∈signsL,∀ c∈g,c.toNat<128:=by decide +kernel
 exact h
theorem sign_steps (s:ByteArray)(i k:Nat)(hi:i+k≤s.size)(h:isSignS (s.extract i (i+k))=true):∃ m,Steps s i (i+k) m:=by
 refine steps_asc s k i ?_ hi;rw [isSign_L,List.any_eq_true] at h;obtain ⟨g,hg,he⟩:=h;have h1:=signs_asc g hg;rw [beq_iff_eq.1 he,bs_extract,Nat.add_sub_cancel_left] at h1;exact h1
theorem tok_steps (s:ByteArray)(i:Nat)(hi:i<s.size):∃ m,Steps s i (tokR s i).2.1 m:=by
 have h0:∃ m,Steps s i i m:=⟨0,.refl _⟩
 obtain ⟨m1,r1⟩:=run_steps s i (by omega)
 rw [tokR_b s i hi];unfold tokRb
 by_cases k5:letterN s[i].toNat=true
 ·rw [if_pos k5];unfold tokName tokNameJ
  split
  ·exact h0
  split
  ·exact ⟨m1,r1⟩
  split
  ·exact h0
  ·rename_i hd _;have hd:dotted s (runE s i)=true:=by cases h:dotted s (runE s i);exact absurd h hd;rfl
   unfold dotted at hd
   by_cases hj:runE s i<s.size
   ·obtain ⟨m2,r2⟩:=run_steps s (runE s i+1) hj;rw [bs_get s _ hj] at hd
    have h46:s[runE s i].toNat<128:=by
     cases hx:(bs s)[runE s i+1]? with
     | none=>rw [hx] at hd;cases hd
     | some y=>
       rw [hx] at hd;simp only [Bool.and_eq_true,beq_iff_eq] at hd;omega
    exact ⟨_,(r1.trans (step_one hj h46)).trans r2⟩
   ·rw [bs_none s _ hj] at hd;cases hd
 rw [if_neg k5]
 by_cases k6:digitN s[i].toNat=true
 ·rw [if_pos k6];unfold tokNum
  split
  ·exact num_steps s i (by omega)
  ·exact h0
 rw [if_neg k6]
 by_cases k7:s[i].toNat=37
 ·rw [if_pos k7];unfold tokPat
  split
  ·obtain ⟨m2,r2⟩:=run_steps s (i+1) (by omega)
   exact ⟨_,(step_one hi (by omega)).trans r2⟩
  ·exact h0
 rw [if_neg k7]
 by_cases k8:s[i].toNat=34
 ·rw [if_pos k8];obtain ⟨m2,r2⟩:=ins_steps s (s.size+1) (i+1) ⟨#[]⟩ (by omega) (by omega)
  have r3:=(step_one hi (by omega)).trans r2
  unfold tokQuo
  split
  ·exact ⟨_,r3⟩
  split
  ·exact h0
  ·exact ⟨_,r3⟩
 rw [if_neg k8];unfold tokSign
 split
 ·rename_i h;exact sign_steps s i 2 h.1 h.2
 split
 ·rename_i h;exact sign_steps s i 1 h.1 h.2
 ·exact h0
theorem line_in (s:ByteArray):∀ (f a:Nat),a≤s.size→s.size<a+f→LineIn s a (a+lineLen ((bs s).drop a))∧∀ k (h:k<s.size),a≤k→k<a+lineLen ((bs s).drop a)→s[k].toNat≠10
 | 0,a,ha,hf=>by omega
 | f+1,a,ha,hf=>by
   by_cases h:a<s.size
   ·rw [lineLen_at s a h]
    by_cases h10:s[a].toNat=10
    ·rw [if_pos h10];exact ⟨⟨by omega,by omega,fun _=>h10⟩,fun k hk h1 h2=>by omega⟩
    ·rw [if_neg h10];obtain ⟨L,hn⟩:=line_in s f (a+1) h (by omega)
     rw [show a+(lineLen ((bs s).drop (a+1))+1)=a+1+lineLen ((bs s).drop (a+1)) by omega]
     refine ⟨⟨by omega,L.es,L.fin⟩,fun k hk h1 h2=>?_⟩
     by_cases hka:k=a
     ·subst hka;exact h10
     ·exact hn k hk (by omega) h2
   ·rw [lineLen_end s a (by omega)]
    exact ⟨⟨by omega,by omega,fun h2=>by omega⟩,fun k hk h1 h2=>by omega⟩
theorem lineLen_to {s:ByteArray}{e:Nat}(he:e≤s.size)(hf:∀ h:e<s.size,s[e].toNat=10):∀ (n p:Nat),p+n=e→(∀ k (h:k<s.size),p≤k→k<e→s[k].toNat≠10)→lineLen ((bs s).drop p)=n
 | 0,p,hp,hn=>by
   by_cases h:p<s.size
   ·rw [lineLen_at s p h,if_pos];have:p=e:=by omega
    subst this;exact hf h
   ·exact lineLen_end s p (by omega)
 | n+1,p,hp,hn=>by
   rw [lineLen_at s p (by omega),if_neg (hn p (by omega) (Nat.le_refl _) (by omega)),lineLen_to he hf n (p+1) (by omega) (fun k h h1 h2=>hn k h (by omega) h2)]
def stOf (a i:Nat)(no:Int)(col:Nat)(l acc:List Tk):Sc:=⟨a+i,no,col,decide (l≠[]),acc.length+l.length,flatT acc++flatT l⟩
section
variable {s:ByteArray} {a e:Nat}
theorem fwd_st (L:LineIn s a e){i j n m:Nat}(h:Steps (s.extract a e) 0 i n)(h2:Steps (s.extract a e) i j m)(hj:j≤(s.extract a e).size)(no:Int)(l acc:List Tk) :
  (stOf a i no (colAt (s.extract a e) i) l acc).fwd s (j-i)=stOf a j no (colAt (s.extract a e) j) l acc:=by
 have hz:=line_size L;have hle:=h2.le;have hx:=line_extract s a e i (j-i) (by omega)
 have hc:=col_add h h2 hj;rw [show i+(j-i)=j by omega] at hx
 rw [hx] at hc;unfold Sc.fwd stOf;dsimp only;rw [hc,show a+i+(j-i)=a+j by omega]
 rw [show a+i+(j-i)=a+j by omega] at *
 simp
theorem put_st (L:LineIn s a e){i j n m:Nat}(h:Steps (s.extract a e) 0 i n)(h2:Steps (s.extract a e) i j m)(hj:j≤(s.extract a e).size)(no kind:Int)(l acc:List Tk) :
  (stOf a i no (colAt (s.extract a e) i) l acc).put s kind (j-i)=stOf a j no (colAt (s.extract a e) j) (l++[⟨kind,(s.extract a e).extract i j,no,colAt (s.extract a e) i⟩]) acc:=by
 have hz:=line_size L;have hle:=h2.le;have hx:=line_extract s a e i (j-i) (by omega)
 have hc:=col_add h h2 hj;rw [show i+(j-i)=j by omega,show a+i+(j-i)=a+j by omega] at hx
 rw [hx] at hc;unfold Sc.put stOf;dsimp only;rw [hc,show a+i+(j-i)=a+j by omega,flatT_snoc,hx]
 simp [Nat.add_assoc]
theorem cut_run (L:LineIn s a e)(hn:∀ k (h:k<s.size),a≤k→k<e→s[k].toNat≠10)(no:Int)(acc:List Tk):∀ (f i n k:Nat) (l:List Tk),i≤(s.extract a e).size→(s.extract a e).size<i+f→Steps (s.extract a e) 0 i n→s.size<a+i+k →
  match cutR (s.extract a e) no f i l with
  | .inl l'=>∃ k',s.size<e+k'∧runS s k (stOf a i no (colAt (s.extract a e) i) l acc)=runS s k' (stOf a (s.extract a e).size no (colAt (s.extract a e) (s.extract a e).size) l' acc)
  | .inr x=>x.1≠0∧∃ m,runS s k (stOf a i no (colAt (s.extract a e) i) l acc)=(x.1,m)∧m.line=no∧m.col=x.2
 | 0,i,n,k,l,h1,h2,h3,h4=>by omega
 | f+1,i,n,0,l,h1,h2,h3,h4=>by have:=line_size L;have:=L.es;have:=L.ae;omega
 | f+1,i,n,k+1,l,h1,h2,h3,h4=>by
   have hz:=line_size L;have hes:=L.es;have hae:=L.ae;unfold cutR
   by_cases hi:i<(s.extract a e).size
   ·rw [dif_pos hi];have hP:a+i<s.size:=by omega
    have hb:(s.extract a e)[i]=s[a+i]:=line_at L i hi hP;have hcl:classL ((bs s).drop (a+i))=classN (s.extract a e)[i].toNat:=by rw [bs_drop s _ hP,hb];rfl
    have h10:(s.extract a e)[i].toNat≠10:=by rw [hb];exact hn _ hP (by omega) (by omega)
    have hpc:=piece_same L hn i hi;have htk:=tok_steps (s.extract a e) i hi;have hbd:=tokR_bounds (s.extract a e) i hi;have hone:(s.extract a e)[i].toNat<128→Steps (s.extract a e) i (i+1) 1:=step_one hi
    have hrun:runS s (k+1) (stOf a i no (colAt (s.extract a e) i) l acc) =
     if classL ((bs s).drop (a+i))=1 then (0,(stOf a i no (colAt (s.extract a e) i) l acc).endl)
     else if classL ((bs s).drop (a+i))=3 then runS s k (stOf a i no (colAt (s.extract a e) i) l acc).endl
     else if classL ((bs s).drop (a+i))=2 then runS s k ((stOf a i no (colAt (s.extract a e) i) l acc).fwd s 1)
     else if classL ((bs s).drop (a+i))=4 then runS s k ((stOf a i no (colAt (s.extract a e) i) l acc).fwd s (lineLen ((bs s).drop (a+i))))
     else if (pieceS (s.extract (a+i) s.size)).2.2.2=0 then runS s k ((stOf a i no (colAt (s.extract a e) i) l acc).put s (pieceS (s.extract (a+i) s.size)).1 (pieceS (s.extract (a+i) s.size)).2.1.toNat)
     else ((pieceS (s.extract (a+i) s.size)).2.2.2,(stOf a i no (colAt (s.extract a e) i) l acc).fwd s (pieceS (s.extract (a+i) s.size)).2.2.1.toNat):=rfl
    rw [hcl] at hrun;rw [hrun];clear hrun hcl;generalize (s.extract a e)[i].toNat=b at *;have c1:classN b≠1:=by unfold classN;(repeat' split)<;>decide
    have c3:classN b≠3:=by unfold classN;(repeat' split)<;>first|decide|omega
    have c2:classN b=2↔blankN b=true:=by unfold classN blankN;rw [decide_eq_true_eq];(repeat' split)<;>omega
    have c4:classN b=4↔b=35:=by unfold classN;(repeat' split)<;>omega
    rw [if_neg c1,if_neg c3]
    by_cases h35:b=35
    ·rw [if_pos h35,if_neg (show ¬ classN b=2 by rw [h35];decide),if_pos (c4.2 h35)]
     have hll:lineLen ((bs s).drop (a+i))=(s.extract a e).size-i:=lineLen_to hes L.fin _ _ (by omega) (fun k h x y=>hn k h (by omega) y)
     obtain ⟨m,hm⟩:=steps_end (s.extract a e) _ i h1 h2;rw [hll,fwd_st L h3 hm (Nat.le_refl _)];exact ⟨k,by omega,rfl⟩
    rw [if_neg h35]
    by_cases hbl:blankN b=true
    ·rw [if_pos hbl,if_pos (c2.2 hbl)];have hs:=hone (by unfold blankN at hbl;rw [decide_eq_true_eq] at hbl;omega)
     have:=fwd_st L h3 hs (by omega) no l acc
     rw [Nat.add_sub_cancel_left] at this;rw [this];exact cut_run L hn no acc f (i+1) _ k l (by omega) (by omega) (h3.trans hs) (by omega)
    rw [if_neg hbl,if_neg (fun h=>hbl (c2.1 h)),if_neg (fun h=>h35 (c4.1 h))]
    obtain ⟨m,hm⟩:=htk
    by_cases hc:(tokR (s.extract a e) i).2.2=0
    ·have hq:=hpc.2 hc;have hlt:=hbd.2 hc;rw [if_neg (fun h=>h hc),hq,if_pos rfl]
     dsimp only;rw [show (((tokR (s.extract a e) i).2.1:Int)-(i:Int)).toNat=(tokR (s.extract a e) i).2.1-i by omega,put_st L h3 hm hbd.1]
     exact cut_run L hn no acc f _ _ k _ hbd.1 (by omega) (h3.trans hm) (by omega)
    ·have hq:=hpc.1 hc;have hle:=hm.le;rw [if_pos hc,hq,if_neg hc];dsimp only;rw [show (((tokR (s.extract a e) i).2.1:Int)-(i:Int)).toNat=(tokR (s.extract a e) i).2.1-i by omega,fwd_st L h3 hm hbd.1]
     exact ⟨hc,_,rfl,rfl,rfl⟩
   ·rw [dif_neg hi];have:i=(s.extract a e).size:=by omega
    subst this;exact ⟨k+1,by omega,rfl⟩
end
theorem endl_st {s:ByteArray}{a e:Nat}(L:LineIn s a e)(no:Int)(l acc:List Tk) :
  (stOf a (s.extract a e).size no (colAt (s.extract a e) (s.extract a e).size) l acc).endl=stOf (e+1) 0 (no+1) 1 [] (acc++if l.length=0 then [] else l++[endT (s.extract a e) no]):=by
 have hz:=line_size L;have hae:=L.ae;have hec:(endT (s.extract a e) no).cells=tokC 1 ⟨#[10]⟩ no (colAt (s.extract a e) (s.extract a e).size):=rfl;generalize endT (s.extract a e) no=T at *;generalize (colAt (s.extract a e) (s.extract a e).size)=C at *;unfold Sc.endl stOf;dsimp only;rw [hz];clear hz
 cases l with
 | nil=>simp [flatT];omega
 | cons t l=>
   simp only [ne_eq,reduceCtorEq,not_false_eq_true,decide_true,if_true,List.length_cons,Nat.succ_ne_zero,if_false];simp only [flatT_append,Sc.mk.injEq,List.length_append,List.length_cons,List.length_nil];refine ⟨by omega,trivial,by simp,by simp,by omega,?_⟩
   simp [flatT,hec]
theorem runS_end (s:ByteArray)(k:Nat)(m:Sc)(h:m.pos=s.size):runS s (k+1) m=(0,m.endl):=by
 show (if classL ((bs s).drop m.pos)=1 then (0,m.endl) else _)=_
 rw [if_pos ((classL_end s m.pos (by omega)).2 h)]
theorem runS_line (s:ByteArray)(k:Nat)(m:Sc)(h:m.pos<s.size)(h10:s[m.pos].toNat=10):runS s (k+1) m=runS s k m.endl:=by
 have hc:classL ((bs s).drop m.pos)=3:=by
  rw [bs_drop s _ h];show classN _=3;rw [h10];rfl
 show (if classL ((bs s).drop m.pos)=1 then (0,m.endl) else if classL ((bs s).drop m.pos)=3 then _ else _)=_
 rw [if_neg (by rw [hc];decide),if_pos hc]
theorem scan_run (s:ByteArray):∀ (f a:Nat) (no:Int) (acc:List Tk) (k:Nat),a≤s.size→s.size<a+f→s.size<a+k →
  match scanL s f a no acc with
  | .inl l=>∃ m,runS s k (stOf a 0 no 1 [] acc)=(0,m)∧m.n=l.length∧m.toks=flatT l
  | .inr x=>x.1≠0∧∃ m,runS s k (stOf a 0 no 1 [] acc)=(x.1,m)∧m.line=x.2.1∧m.col=x.2.2
 | 0,a,no,acc,k,h1,h2,h3=>by omega
 | f+1,a,no,acc,k,h1,h2,h3=>by
   obtain ⟨L,hn⟩:=line_in s (s.size+1) a h1 (by omega)
   unfold scanL;rw [if_pos h1];generalize a+lineLen ((bs s).drop a)=e at *;have hz:=line_size L;have hes:=L.es;have hae:=L.ae;have hr:=cut_run L hn no acc ((s.extract a e).size+1) 0 0 k [] (Nat.zero_le _) (by omega) (.refl _) h3
   rw [show colAt (s.extract a e) 0=1 from rfl] at hr
   unfold lineR
   cases hc:cutR (s.extract a e) no ((s.extract a e).size+1) 0 [] with
   | inr x=>
     rw [hc] at hr;exact ⟨hr.1,hr.2.choose,hr.2.choose_spec.1,hr.2.choose_spec.2.1,hr.2.choose_spec.2.2⟩
   | inl l=>
     rw [hc] at hr;obtain ⟨k',hk,hr⟩:=hr;rw [hr];unfold lineOf;dsimp only;have hen:=endl_st L no l acc;have hpos:(stOf a (s.extract a e).size no (colAt (s.extract a e) (s.extract a e).size) l acc).pos=e:=by show a+_=e;omega
     generalize stOf a (s.extract a e).size no (colAt (s.extract a e) (s.extract a e).size) l acc=M at *
     by_cases he:e<s.size
     ·cases k' with
      | zero=>omega
      | succ k'=>
        have h10:s[M.pos].toNat=10:=by simp only [hpos];exact L.fin he
        rw [runS_line s k' M (by omega) h10,hen]
        exact scan_run s f (e+1) (no+1) _ k' (by omega) (by omega) (by omega)
     ·cases k' with
      | zero=>omega
      | succ k'=>
        rw [runS_end s k' M (by omega),hen]
        have hl:∀ g acc',scanL s g (e+1) (no+1) acc'=.inl acc':=fun g acc'=>by
         cases g with
         | zero=>rfl
         | succ g=>unfold scanL;rw [if_neg (by omega)]
        rw [hl];refine ⟨_,rfl,?_,?_⟩
        ·show List.length _+0=_;rfl
        ·show flatT _++flatT []=_;simp [flatT]
theorem scan_same (s:ByteArray):(∀ l,scanR s=.inl l→scanS s=⟨l.length,flatT l,0,0,0⟩)∧(∀ x,scanR s=.inr x→x.1≠0∧scanS s=⟨0,[],x.1,x.2.1,x.2.2⟩):=by
 unfold scanR scanS
 by_cases h:16384<s.size
 ·rw [if_pos h,if_pos h];refine ⟨fun l hl=>(by cases hl),fun x hx=>?_⟩
  injection hx with hx
  subst hx;exact ⟨by decide,rfl⟩
 ·rw [if_neg h,if_neg h];have hr:=scan_run s (s.size+2) 0 1 [] (s.size+1) (Nat.zero_le _) (by omega) (by omega)
  rw [show stOf 0 0 1 1 [] []=⟨0,1,1,false,0,[]⟩ from rfl] at hr
  cases hc:scanL s (s.size+2) 0 1 [] with
  | inl l=>
    rw [hc] at hr;obtain ⟨m,h1,h2,h3⟩:=hr;refine ⟨fun l' hl=>?_,fun x hx=>by cases hx⟩
    injection hl with hl
    subst hl;rw [h1,if_pos rfl,h2,h3]
  | inr x=>
    rw [hc] at hr;obtain ⟨h0,m,h1,h2,h3⟩:=hr;refine ⟨fun l' hl=>(by cases hl),fun y hy=>?_⟩
    injection hy with hy
    subst hy;rw [h1,if_neg h0,h2,h3];exact ⟨h0,rfl⟩
theorem unq_same (s:ByteArray):unqOf s (insQ s)=unqOf s (spkQ s):=by
 by_cases h0:s.size=0
 ·have:(bs s)[0]?=none:=bs_none s 0 (by omega)
  unfold unqOf
  by_cases h:16384<s.size
  ·rw [if_pos h,if_pos h]
  ·rw [if_neg h,if_neg h,this,if_pos (by decide),if_pos (by decide)]
 ·have L:LineIn s 0 s.size:=⟨Nat.zero_le _,Nat.le_refl _,fun h=>by omega⟩
  have e0:s.extract 0 s.size=s:=by simp
  have hx:=ins_speak L 0 false (fun h=>by cases h) (fun _=>rfl) (s.size+1) (s.size+1) 1 [] (by rw [e0];omega) (by rw [e0];omega) (by rw [e0];omega)
  rw [Nat.zero_add,Nat.zero_add,e0] at hx;obtain ⟨r,k,c,h1,h2⟩:=hx
  have h3:insQ s=(strOfNums r,k,c):=by
   have:=h2;rw [Nat.zero_add] at this;exact this
  rw [h3]
  show _=unqOf s (strOfNums (speakS s false (s.size+1) 1 []).1,(speakS s false (s.size+1) 1 []).2.1,(speakS s false (s.size+1) 1 []).2.2)
  rw [h1]
theorem val_same (s:ByteArray):valOf s (numR s)=valOf s (numS s):=by rw [numR_same]
end Go.Proofs.YtjokciofeicdkaaGreatDoor
