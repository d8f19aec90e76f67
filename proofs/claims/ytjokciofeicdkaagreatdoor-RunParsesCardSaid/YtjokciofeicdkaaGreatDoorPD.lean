/- A part of the proof of RunParses: Mach Pat Esc SpeakS Speak Mach2 Piece Mach3 RunS Run Scan. -/
import Derived.Test.YtjokciofeicdkaaGreatDoorPC
import Derived.Lib.OthersKept
import Derived.StillTailTactics
import Derived.Deep.RegionHeld3
import Derived.Deep.DrawnRows
import Derived.KernelRfl
import Derived.Lib.RuneBytes
import Derived.Deep.AppendLies
set_option maxHeartbeats 16000000
set_option maxRecDepth 100000
set_option linter.all false
namespace Go.Proofs.YtjokciofeicdkaaGreatDoor
open Go.RowKit
theorem width_pos (s:ByteArray)(pos:Nat)(h:pos<s.size):1≤(Utf8.decode s pos).2:=by
 by_cases ha:(s[pos]'h).toNat<128
 ·rw [decode_ascii s pos h ha];exact Nat.le_refl _
 ·exact (decode_high s pos h (by omega)).2
def runesFrom (s:ByteArray)(pos:Nat):Nat:=
 if h:pos<s.size then 1+runesFrom s (pos+(Utf8.decode s pos).2) else 0
termination_by s.size-pos
decreasing_by have:=width_pos s pos h;omega
theorem runesFrom_le (s:ByteArray):∀ n pos,s.size-pos≤n→runesFrom s pos≤n
 | 0,pos,h=>by rw [runesFrom,dif_neg (by omega)];exact Nat.le_refl _
 | n+1,pos,h=>by
   rw [runesFrom]
   split
   ·rename_i hp;have:=width_pos s pos hp;have:=runesFrom_le s n (pos+(Utf8.decode s pos).2) (by omega)
    omega
   ·omega
structure Mach where
 text:ByteArray
 pos:Nat
 line:Int
 col:Int
 opn:Bool
 toks:Value
def Mach.cells (m:Mach):Array Value:=#[.string m.text,.int .i64 m.pos,.int .i64 m.line,.int .i64 m.col,.bool m.opn,m.toks]
def MachAt (w:World)(M:Nat)(m:Mach):Prop:=w.heap[M]?=some (.cells m.cells 99 (0,0))
theorem gb_refl (w:World)(r:Option Nat):w.grownBy w r:=⟨rfl,rfl,rfl,Nat.le_refl _,fun _ _ _=>rfl⟩
theorem gb_trans {a b c:World}{r:Option Nat}(h:a.grownBy b r)(k:b.grownBy c r):a.grownBy c r:=
 ⟨k.os.trans h.os,k.tape.trans h.tape,k.output.trans h.output,Nat.le_trans h.size k.size,fun i hi hne=>(k.block i (Nat.lt_of_lt_of_le hi h.size) hne).trans (h.block i hi hne)⟩
theorem gb_drewN {a w:World}{r:Option Nat}(h:a.grownBy w r)(n:Nat):a.grownBy (w.drewN n) r:=⟨h.os,h.tape,h.output,h.size,h.block⟩
theorem gb_drew {a w:World}{r:Option Nat}(h:a.grownBy w r):a.grownBy w.drew r:=⟨h.os,h.tape,h.output,h.size,h.block⟩
theorem gb_below {a b c:World}{r:Option Nat}(h:a.grownBy b r)(k:Below b.heap.size b c):a.grownBy c r:=
 gb_trans h ⟨k.os,k.tape,k.output,k.size,fun i hi _=>k.block i hi⟩
theorem gb_setCell {a w:World}{g:Nat}(h:a.grownBy w (some g))(o:Nat)(u:Value):a.grownBy (w.setCell ⟨g,o,none⟩ u) (some g):=
 ⟨h.os,h.tape,h.output,by simpa [World.setCell] using h.size,fun i hi hne=>(Below.heap_setCell w ⟨g,o,none⟩ u i (fun e=>hne (by rw [e]))).trans (h.block i hi hne)⟩
theorem gb_iterAt {a w:World}{r:Option Nat}(h:a.grownBy w r){k:Nat}(hk:a.heap.size≤k)(s:ByteArray)(q:Nat):a.grownBy (w.iterAt k s q) r:=
 ⟨h.os,h.tape,h.output,by simpa [World.iterAt] using h.size,fun i hi hne=>by
  rw [← h.block i hi hne]
  show (w.heap.setIfInBounds k _)[i]?=_
  rw [Array.getElem?_setIfInBounds,if_neg (by omega)]⟩
theorem MachAt.lt {w:World}{M:Nat}{m:Mach}(h:MachAt w M m):M<w.heap.size:=(Array.getElem?_eq_some_iff.1 h).1
theorem MachAt.free {w:World}{M:Nat}{m:Mach}(h:MachAt w M m)(i:Nat):w.frozen? ⟨M,i,none⟩=false:=by
 unfold MachAt at h
 simp [World.frozen?,h]
theorem MachAt.of_block {w w':World}{M:Nat}{m:Mach}(h:MachAt w M m)(hb:w'.heap[M]?=w.heap[M]?):MachAt w' M m:=hb.trans h
theorem MachAt.c0 {w:World}{M:Nat}{m:Mach}(h:MachAt w M m):w.cell? ⟨M,0,none⟩=some (.string m.text):=by have:=cell_of_row w M 0 _ _ (0,0) h;simpa [Mach.cells] using this
theorem MachAt.c1 {w:World}{M:Nat}{m:Mach}(h:MachAt w M m):w.cell? ⟨M,1,none⟩=some (.int .i64 m.pos):=by have:=cell_of_row w M 1 _ _ (0,0) h;simpa [Mach.cells] using this
theorem MachAt.c2 {w:World}{M:Nat}{m:Mach}(h:MachAt w M m):w.cell? ⟨M,2,none⟩=some (.int .i64 m.line):=by have:=cell_of_row w M 2 _ _ (0,0) h;simpa [Mach.cells] using this
theorem MachAt.c3 {w:World}{M:Nat}{m:Mach}(h:MachAt w M m):w.cell? ⟨M,3,none⟩=some (.int .i64 m.col):=by have:=cell_of_row w M 3 _ _ (0,0) h;simpa [Mach.cells] using this
theorem MachAt.c4 {w:World}{M:Nat}{m:Mach}(h:MachAt w M m):w.cell? ⟨M,4,none⟩=some (.bool m.opn):=by have:=cell_of_row w M 4 _ _ (0,0) h;simpa [Mach.cells] using this
theorem MachAt.c5 {w:World}{M:Nat}{m:Mach}(h:MachAt w M m):w.cell? ⟨M,5,none⟩=some m.toks:=by have:=cell_of_row w M 5 _ _ (0,0) h;simpa [Mach.cells] using this
theorem MachAt.set {w:World}{M:Nat}{m m':Mach}(h:MachAt w M m)(i:Nat)(v:Value)(he:m.cells.setIfInBounds i v=m'.cells):MachAt (w.setCell ⟨M,i,none⟩ v) M m':=by
 unfold MachAt at h ⊢;rw [← he]
 simp [World.setCell,Array.getElem?_modify,h]
theorem forward_any (M:Nat)(m:Mach)(size:Nat)(w:World)(hm:MachAt w M m)(hsz:m.pos+size≤m.text.size)(ht:m.text.size≤4294967295)(hc0:0≤m.col)(hc1:m.col≤4611686018427387904) :
 Calls Tryz.prog 62 #[.pointer (some ⟨M,0,none⟩),.int .i64 size] w fun e w'=>e=.returned (.tuple #[]) ∧
  MachAt w' M { m with pos:=m.pos+size,col:=m.col+runesFrom (m.text.extract m.pos (m.pos+size)) 0 }∧w.grownBy w' (some M):=by
 obtain ⟨text,pos,line,col,opn,toks⟩:=m;dsimp only at *;have q0:=hm.c0;have q1:=hm.c1;have hM:=Hi hm;clear hm;dsimp only at q0 q1;have bw:IntKind.i64.wrap ((pos:Int)+(size:Int))=(pos:Int)+(size:Int):=IntWalk.i64_in _ (by omega)
 have b0:(0:Int)≤(pos:Int):=by omega
 have b1:(pos:Int)≤(pos:Int)+(size:Int):=by omega
 have b2:(pos:Int)+(size:Int)≤(text.size:Int):=by omega
 go_enter Tryz.func62,Tryz.ntmps62;go_wp2_with fail
 go_still_tail 15,(by kernel_rfl)
 go_wp2_with fail;have hlt:=hM.out.lt;obtain ⟨q,hq⟩:∃ q,q=text.extract pos (pos+size):=⟨_,rfl⟩
 rw [← hq];have hq:=Hi hq;have hql:q.size≤4294967295:=by rw [hq.out];have:=size_extract_le text pos (pos+size);omega
 have hrl:=Hi (show ∀ p,runesFrom q p≤4294967295 from fun p=>Nat.le_trans (runesFrom_le q q.size p (by omega)) hql)
 clear q0 q1
 go_loopw [] (fun wr=>∃ (p c:Nat),wr.heap[w.heap.size]?=some (.stringIter q p)∧c≤4294967295∧Hid (runesFrom q 0=c+runesFrom q p)∧MachAt wr M ⟨text,pos,line,col+c,opn,toks⟩∧w.grownBy wr (some M)) (fun wr=>q.size-wr.iterPos w.heap.size)
 case atStart=>
  refine ⟨0,0,World.iter_heap _ _ _,by omega,Hi (by simp),?_,gb_below (gb_drew (gb_refl _ _)) ((Below.refl _ _).alloc (Nat.le_refl _) _)⟩
  rw [show col+((0:Nat):Int)=col by simp]
  exact hM.out.of_block (Below.heap_alloc w.drew _ M hlt)
 case round=>
  obtain ⟨p,c,hit,hcl,hr,hma,hg⟩:=hrel
  by_cases hp:p<q.size
  ·have hnx:=fun ty=>Lib.run_next_any_at (P:=Tryz.prog) wr w.heap.size q p ty hit hp
   have hw:=width_pos q p hp
   have hr':=Hi (show runesFrom q 0=(c+1)+runesFrom q (p+(Utf8.decode q p).2) from by
    have:=hr.out;rw [show runesFrom q p=1+runesFrom q (p+(Utf8.decode q p).2) by rw [runesFrom,dif_pos hp]] at this
    omega)
   have hcl':c+1≤4294967295:=by have:=hrl.out 0;have:=hr'.out;omega
   have hit2:=Lib.iterAt_heap wr w.heap.size q p (p+(Utf8.decode q p).2) hit;have hg2:=gb_iterAt hg (Nat.le_refl _) q (p+(Utf8.decode q p).2)
   have hma2:MachAt (wr.iterAt w.heap.size q (p+(Utf8.decode q p).2)) M ⟨text,pos,line,col+c,opn,toks⟩:=hma.of_block (by
    show (wr.heap.setIfInBounds _ _)[M]?=_
    rw [Array.getElem?_setIfInBounds,if_neg (by omega)])
   have hpos:(wr.iterPos w.heap.size)=p:=by simp [World.iterPos,hit]
   have hpos:=Hi hpos;obtain ⟨W2,hW2⟩:∃ W2,W2=wr.iterAt w.heap.size q (p+(Utf8.decode q p).2):=⟨_,rfl⟩
   rw [← hW2] at hit2 hg2 hma2 hnx;clear hW2 hr hit hma hg;have q3:=hma2.c3;have qf:=hma2.free 3;dsimp only at q3;have hit2:=Hi hit2;go_wp2_with fail
   go_roundw
   case rel=>
    refine ⟨p+(Utf8.decode q p).2,c+1,?_,hcl',hr',?_,gb_setCell hg2 _ _⟩
    ·rw [Below.heap_setCell _ _ _ _ (by show _≠M;omega)];exact hit2.out
    ·exact hma2.set 3 _ (by simp [Mach.cells];omega)
   case measure=>
    rw [hpos.out]
    have:(W2.setCell ⟨M,3,none⟩ (.int .i64 (col + ↑c+1))).iterPos w.heap.size=p+(Utf8.decode q p).2:=by
     unfold World.iterPos;rw [Below.heap_setCell _ _ _ _ (by show _≠M;omega),hit2.out]
    first|(rw [this];omega)|(simp only [this];omega)
  ·have hnx:=fun ty=>Lib.run_next_end_at (P:=Tryz.prog) wr w.heap.size q p ty hit hp
   have hr':=Hi (show runesFrom q 0=c from by
    have:=hr.out
    rwa [show runesFrom q p=0 by rw [runesFrom,dif_neg hp]] at this)
   have q1:=hma.c1;have qf:=hma.free 1;dsimp only at q1;clear hit hr;go_wp2_with fail;go_end0;refine ⟨rfl,?_,gb_setCell hg _ _⟩;rw [← hq.out,hr'.out];exact hma.set 1 _ (by simp [Mach.cells])
def trit (c:UInt8):Bool:=c.toNat == 48 || c.toNat == 49 || c.toNat == 120
def patS (l:Bytes):Bool:=l.all trit && (decide (0<l.length) && decide (l.length≤32))
theorem decode_trit (s:ByteArray)(p:Nat)(h:p<s.size):((Utf8.decode s p).1=48∨(Utf8.decode s p).1=49∨(Utf8.decode s p).1=120)↔trit s[p]=true:=by
 by_cases ha:(s[p]'h).toNat<128
 ·rw [decode_ascii s p h ha]
  simp [trit];omega
 ·have h1:=(decode_high s p h (by omega)).1
  simp only [trit,Bool.or_eq_true,beq_iff_eq];omega
theorem decode_trit_w (s:ByteArray)(p:Nat)(h:p<s.size)(ht:trit s[p]=true):(Utf8.decode s p).2=1:=by
 have ha:(s[p]'h).toNat<128:=by simp only [trit,Bool.or_eq_true,beq_iff_eq] at ht;omega
 rw [decode_ascii s p h ha]
theorem pattern_any (s:ByteArray)(hs:s.size≤9223372036854775807)(w:World) :
 Calls Tryz.prog 85 #[.string s] w fun e w'=>e=.returned (.bool (patS (bs s)))∧Below w.heap.size w w':=by
 go_enter Tryz.func85,Tryz.ntmps85;go_wp2_with fail
 go_loopw [] (fun wr=>∃ p:Nat,p≤s.size∧wr=w.iter s p∧Hid ((bs s).all trit=((bs s).drop p).all trit)) (fun wr=>s.size-wr.iterPos w.heap.size)
 case atStart=>exact ⟨0,by omega,rfl,Hi rfl⟩
 case round=>
  obtain ⟨p,hp,rfl,hr⟩:=hrel
  by_cases hlt:p<s.size
  ·have hnx:=fun ty=>run_next_any (P:=Tryz.prog) w s p ty hlt
   have hd:=Hi (decode_trit s p hlt);have hw:=width_pos s p hlt;have hpos:=Hi (World.iterPos_iter w s p)
   by_cases ht:trit s[p]=true
   ·have hw1:=decode_trit_w s p hlt ht;rw [hw1] at hnx
    have hr':=Hi (show (bs s).all trit=((bs s).drop (p+1)).all trit by
     rw [hr.out,bs_drop s p hlt,List.all_cons,ht];rfl)
    have hdd:=hd.out.2 ht;clear hd hr hw hw1 ht;generalize (Utf8.decode s p).1=c at *;have hpos2:=Hi (World.iterPos_iter w s (p+1));rcases hdd with hdd|hdd|hdd
    all_goals
     subst hdd;go_wp2_with fail
     go_roundw
     case rel=>exact ⟨p+1,by omega,rfl,hr'⟩
     case measure=>rw [hpos.out,hpos2.out];omega
   ·have hdd:¬ ((Utf8.decode s p).1=48∨(Utf8.decode s p).1=49∨(Utf8.decode s p).1=120):=fun h=>ht (hd.out.1 h)
    have H:=Hi (show patS (bs s)=false by
     unfold patS;rw [hr.out,bs_drop s p hlt,List.all_cons,show trit s[p]=false by simpa using ht];rfl)
    have hwx:=Hi (World.iter_extends w s (p+(Utf8.decode s p).2));clear hd hr hw ht;generalize (Utf8.decode s p).1=c at *;have d1:((c:Int) != 48)=true:=by rw [bne_iff_ne];intro h;exact hdd (.inl (by omega))
    have d2:((c:Int) != 49)=true:=by rw [bne_iff_ne];intro h;exact hdd (.inr (.inl (by omega)))
    have d3:((c:Int) != 120)=true:=by rw [bne_iff_ne];intro h;exact hdd (.inr (.inr (by omega)))
    clear hdd;go_wp2_with fail;go_ret;exact ⟨ret_bool H.out.symm,(Below.refl _ _).alloc (Nat.le_refl _) _⟩
  ·have hnx:=fun ty=>run_next_end (P:=Tryz.prog) w s p ty hlt
   have hr':=Hi (show (bs s).all trit=true by rw [hr.out,bs_drop_end s p hlt];rfl)
   clear hr
   by_cases hz:s.size=0
   ·have H:=Hi (show patS (bs s)=false by
     unfold patS;rw [bs_length,decide_eq_false (show ¬ 0<s.size by omega)];simp)
    obtain rfl:=str_nil s hz;go_wp2_with fail;go_ret;exact ⟨ret_bool H.out.symm,(Below.refl _ _).alloc (Nat.le_refl _) _⟩
   ·have he:=emp_false s hz
    have H:=Hi (show patS (bs s)=decide ((s.size:Int)≤32) by
     unfold patS;rw [hr'.out,bs_length,decide_eq_true (show 0<s.size by omega)]
     simp only [Bool.true_and]
     congr 1;exact propext ⟨fun h=>by omega,fun h=>by omega⟩)
    go_wp2_with fail;go_ret;exact ⟨ret_bool H.out.symm,(Below.refl _ _).alloc (Nat.le_refl _) _⟩
def looseS (s:ByteArray)(p:Nat)(c:Int):Bool:=c == 65533 && (Lib.decodeGo (s.extract p s.size)).2 == 1
theorem loose_any (s:ByteArray)(p:Nat)(c:Int)(hp:p≤s.size)(w:World)(E:Env w) :
 Calls Tryz.prog 121 #[.string s,.int .i64 p,.int .i32 c] w fun e w'=>e=.returned (.bool (looseS s p c))∧Below w.heap.size w w':=by
 by_cases hc:c=65533
 ·have H:=Hi (show looseS s p c=((Lib.decodeGo (s.extract p s.size)).2 == 1) by rw [hc];rfl)
  have c1:=Hi (Tryz.utf8_DecodeRuneInString (s.extract p s.size) w E.u8);have hc':(c != 65533)=false:=by rw [hc];rfl
  generalize Lib.decodeGo (s.extract p s.size)=q at *;obtain ⟨q1,q2⟩:=q;dsimp only at *;clear hc
  by_cases h1:q2=1
  ·have H2:=Hi (H.out.trans (beq_iff_eq.2 h1));subst h1;clear H;go_enter Tryz.func121,Tryz.ntmps121;go_wp2_with fail;refine c1.out.mono ?_;rintro e w1 ⟨rfl,hb⟩;go_wp2_with fail;go_ret;exact ⟨ret_bool H2.out.symm,hb⟩
  ·have H2:=Hi (H.out.trans (beq_eq_false_iff_ne.2 h1));have h1':((q2:Int) == 1)=false:=by simp;omega
   clear H h1;go_enter Tryz.func121,Tryz.ntmps121;go_wp2_with fail;refine c1.out.mono ?_;rintro e w1 ⟨rfl,hb⟩;go_wp2_with fail;go_ret;exact ⟨ret_bool H2.out.symm,hb⟩
 ·have H:=Hi (show looseS s p c=false by unfold looseS;rw [beq_eq_false_iff_ne.2 hc];rfl)
  have hc':(c != 65533)=true:=by rw [bne_iff_ne];exact hc
  clear hc;go_enter Tryz.func121,Tryz.ntmps121;go_wp2_with fail;go_ret;exact ⟨ret_bool H.out.symm,Below.refl _ _⟩
def escU (s:ByteArray):List Int×Nat:=
 if Lib.hasPrefix (bs s) [92,117,123]=false then ([],0) else
 if (Lib.cut (bs (s.extract 3 s.size)) [125]).2.2=false then ([],0) else
 match basedS 16 6 (Lib.cut (bs (s.extract 3 s.size)) [125]).1 with
 | none=>([],0)
 | some v=>if Lib.validRune v=false then ([],0) else (Lib.encodeRuneZ v,(Lib.cut (bs (s.extract 3 s.size)) [125]).1.length+4)
def escS (s:ByteArray):List Int×Nat:=
 if h:s.size<2 then ([],0) else
 if s[1].toNat=34 then ([34],2) else if s[1].toNat=92 then ([92],2) else if s[1].toNat=110 then ([10],2) else
 if s[1].toNat=114 then ([13],2) else if s[1].toNat=116 then ([9],2) else
 match (if s[1].toNat=120∧4≤s.size then basedS 16 2 (bs (s.extract 2 4)) else none) with
 | some v=>([(v:Int)],4)
 | none=>escU s
def u8s (l:List Int):List Value:=l.map (Value.int .u8)
def EscPost (w:World)(q:List Int×Nat)(e:Ending)(w':World):Prop:=
 ∃ sv,e=.returned (.tuple #[sv,.int .i64 q.2])∧w'.ownsRow w.heap.size 5 1 sv q.1.length (u8s q.1)∧Below w.heap.size w w'
theorem esc_nil (w w':World)(hb:Below w.heap.size w w'):EscPost w ([],0) (.returned (.tuple #[.slice none 0 0,.int .i64 0])) w':=
 ⟨_,rfl,World.ownsRow_nil _ _ _ _,hb⟩
theorem esc_one (w w1:World)(v:Int)(k:Nat)(hb:Below w.heap.size w w1) :
 EscPost w ([v],k) (.returned (.tuple #[.slice (some ⟨w1.heap.size,0,none⟩) 1 1,.int .i64 k])) (w1.alloc (.cells #[.int .u8 v] 5)):=
 ⟨_,rfl,⟨rfl,.inr ⟨w1.heap.size,1,#[.int .u8 v],rfl,hb.size,heap_alloc_new _ _,Nat.le_refl 1,by decide,rfl,rfl⟩⟩,hb.alloc hb.size _⟩
theorem basedS_bd {most:Nat}{l:Bytes}{v:Nat}(h:basedS 16 most l=some v):v<16 ^ most:=by
 unfold basedS at h
 split at h
 ·cases h
 ·rename_i h1
  split at h
  ·cases h
  ·have:=based_lt 16 (by decide) l 0 v h
   have h2:l.length≤most:=Nat.not_lt.1 (fun e=>h1 (.inr e))
   have h3:=Nat.pow_le_pow_right (n:=16) (by decide) h2
   omega
theorem own_base {w:World}{base base':Nat}{e:TypeId}{size n:Nat}{v:Value}{xs:List Value}(h:w.ownsRow base e size v n xs)(hb:base'≤base):w.ownsRow base' e size v n xs:=by
 obtain ⟨h1,h2⟩:=h;refine ⟨h1,?_⟩;rcases h2 with h2|⟨g,cap,cur,hv,hg,r⟩
 ·exact .inl h2
 ·exact .inr ⟨g,cap,cur,hv,Nat.le_trans hb hg,r⟩
theorem below_grown_none {B:Nat}{a w w':World}{o:Obj}(h:Below B a w)(hB:B≤w.heap.size)(hg:(w.alloc o).grownBy w' none):Below B a w':=
 (h.alloc hB o).grown hg (by simp;omega) (fun k hk=>by cases hk)
theorem cut_length (l sep:Bytes):(Lib.cut l sep).1.length≤l.length:=by
 unfold Lib.cut;split
 ·simp;omega
 ·exact Nat.le_refl _
theorem escape_any (s:ByteArray)(hs:s.size<4294967281)(w:World)(E:Env w) :
 Calls Tryz.prog 120 #[.string s] w fun e w'=>EscPost w (escS s) e w':=by
 by_cases h2:s.size<2
 ·have H:=Hi (show escS s=([],0) by unfold escS;rw [dif_pos h2])
  rw [H.out];clear H;go_enter Tryz.func120,Tryz.ntmps120;go_wp2;go_ret2;exact esc_nil _ _ (Below.refl _ _)
 have HS:=Hi (show escS s=if s[1].toNat=34 then ([34],2) else if s[1].toNat=92 then ([92],2) else if s[1].toNat=110 then ([10],2) else
  if s[1].toNat=114 then ([13],2) else if s[1].toNat=116 then ([9],2) else
  match (if s[1].toNat=120∧4≤s.size then basedS 16 2 (bs (s.extract 2 4)) else none) with
  | some v=>([(v:Int)],4)
  | none=>escU s by
  unfold escS;rw [dif_neg h2])
 have c1:=Hi (fun w=>Tryz.strings_IndexByte ⟨#[34,92,110,114,116]⟩ (s[1].toNat:Int) w)
 have hback:((s[1].toNat:Int).toNat.toUInt8)=s[1]:=by simp
 rw [hback] at c1;clear hback;have HE:=Hi E;obtain ⟨m0,hm0⟩:=E.maxlen;have hm0:=Hi hm0;clear E
 by_cases hlit:s[1].toNat=34∨s[1].toNat=92∨s[1].toNat=110∨s[1].toNat=114∨s[1].toNat=116
 ·have lit:∀ (i v:Nat),Lib.indexByte [34,92,110,114,116] s[1]=i→(⟨#[34,92,10,13,9]⟩:ByteArray).data.toList[i]?=some (UInt8.ofNat v)→i<5→v<256→escS s=([(v:Int)],2) →
   Calls Tryz.prog 120 #[.string s] w fun e w'=>EscPost w (escS s) e w':=fun i v h1 h3 h4 h5 h6=>by
   have H:=Hi h6;have c1':=Hi (c1.out w);rw [show Lib.indexByte (⟨#[34,92,110,114,116]⟩:ByteArray).data.toList s[1]=i from h1] at c1'
   rw [H.out];clear h1 h6 HS hlit c1 H;have hi:i=0∨i=1∨i=2∨i=3∨i=4:=by omega
   have hv:i=0∧v=34∨i=1∧v=92∨i=2∧v=10∨i=3∧v=13∨i=4∧v=9:=by
    rcases hi with rfl|rfl|rfl|rfl|rfl<;>simp at h3<;>have h7:=congrArg UInt8.toNat h3<;>simp at h7<;>omega
   clear h3 h4 h5 hi;rcases hv with ⟨rfl,rfl⟩|⟨rfl,rfl⟩|⟨rfl,rfl⟩|⟨rfl,rfl⟩|⟨rfl,rfl⟩
   all_goals
    go_enter Tryz.func120,Tryz.ntmps120;go_wp2_with fail;refine c1'.out.mono ?_;rintro e w1 ⟨rfl,rfl⟩;go_wp2_with fail;go_ret2;exact esc_one w1 w1 _ 2 (Below.refl _ _)
  have hu:∀ n:Nat,s[1].toNat=n→s[1]=UInt8.ofNat n:=fun n h=>by rw [← h];simp
  rcases hlit with h|h|h|h|h
  ·exact lit 0 34 (by rw [hu _ h];decide) rfl (by decide) (by decide) (by rw [HS.out,if_pos h];rfl)
  ·exact lit 1 92 (by rw [hu _ h];decide) rfl (by decide) (by decide) (by rw [HS.out,if_neg (by omega),if_pos h];rfl)
  ·exact lit 2 10 (by rw [hu _ h];decide) rfl (by decide) (by decide) (by rw [HS.out,if_neg (by omega),if_neg (by omega),if_pos h];rfl)
  ·exact lit 3 13 (by rw [hu _ h];decide) rfl (by decide) (by decide) (by rw [HS.out,if_neg (by omega),if_neg (by omega),if_neg (by omega),if_pos h];rfl)
  ·exact lit 4 9 (by rw [hu _ h];decide) rfl (by decide) (by decide) (by rw [HS.out,if_neg (by omega),if_neg (by omega),if_neg (by omega),if_neg (by omega),if_pos h];rfl)
 have c1':=Hi (c1.out w)
 have hm1:Lib.indexByte (⟨#[34,92,110,114,116]⟩:ByteArray).data.toList s[1] = -1:=by
  have hne:∀ c:UInt8,(c.toNat=34∨c.toNat=92∨c.toNat=110∨c.toNat=114∨c.toNat=116)→(c == s[1])=false:=fun c hc=>by
   rw [beq_eq_false_iff_ne];rintro rfl;exact hlit hc
  show Lib.indexByte [34,92,110,114,116] s[1] = -1
  simp only [Lib.indexByte,hne 34 (by decide),hne 92 (by decide),hne 110 (by decide),hne 114 (by decide),hne 116 (by decide)]
  rfl
 rw [hm1] at c1';clear hm1 c1
 have HS:=Hi (show escS s=match (if s[1].toNat=120∧4≤s.size then basedS 16 2 (bs (s.extract 2 4)) else none) with
  | some v=>([(v:Int)],4)
  | none=>escU s by
  rw [HS.out,if_neg (by omega),if_neg (by omega),if_neg (by omega),if_neg (by omega),if_neg (by omega)])
 clear hlit;have cb:=Hi (fun w E=>based_any 16 2 (.inl ⟨rfl,by decide⟩) (s.extract 2 4) (by have:=size_extract_le s 2 4;omega) w E)
 have hbd:=Hi (show ∀ v,basedS 16 2 (bs (s.extract 2 4))=some v→v<256 from fun v h=>basedS_bd h)
 have cp:=Hi (fun w=>Tryz.strings_HasPrefix s ⟨#[92,117,123]⟩ w)
 go_enter Tryz.func120,Tryz.ntmps120;go_upto_region 6 with (go_at_call 155;refine (c1'.out.mono (R':=fun e w'=>e=.returned (.int .i64 (-1))∧w=w') (fun _ _ h=>⟨h.1,h.2.symm⟩)).mono ?_;rintro e w1 ⟨rfl,rfl⟩)
 go_cut [29] (fun v wx=>wx=w∧v=.bool (decide (s[1].toNat=120∧4≤s.size)))
 case first=>
  go_wp2_with fail
  all_goals go_meet
  all_goals (refine ⟨rfl,val_bool ?_⟩;rw [Bool.eq_iff_iff];simp;omega)
 case rest=>
 obtain ⟨rfl,rfl⟩:=hcut;obtain ⟨B,hB⟩:∃ B,B=decide (s[1].toNat=120∧4≤s.size):=⟨_,rfl⟩
 rw [← hB];have hB':=Hi hB;clear hB;go_upto_if 29 with fail
 go_cut [5,6] (fun _ _ wx=>Below wc.heap.size wc wx∧Hid (escS s=escU s))
 case first=>
  cases B with
  | true=>
    have hx:=of_decide_eq_true hB'.out.symm;have h4:=hx.2
    have HS2:=Hi (show escS s=match basedS 16 2 (bs (s.extract 2 4)) with|some v=>([(v:Int)],4)|none=>escU s by
     rw [HS.out,if_pos hx])
    clear HS hx hB';generalize basedS 16 2 (bs (s.extract 2 4))=o at *;go_wp2_with fail;refine (cb.out _ HE.out).mono ?_;rintro e w2 ⟨rfl,hb2⟩
    cases o with
    | none=>
      unfold optT;dsimp only [Option.getD_none,Option.isSome_none];have HS3:=Hi (show escS s=escU s from HS2.out)
      go_wp2_with fail;go_meet;exact ⟨hb2,HS3⟩
    | some v=>
      unfold optT;dsimp only [Option.getD_some,Option.isSome_some];have hv:v<256:=hbd.out v rfl;have HS3:=Hi (show escS s=([(v:Int)],4) from HS2.out)
      go_wp2_with fail;go_ret2;rw [HS3.out];exact esc_one _ _ _ 4 hb2
  | false=>
    have HS2:=Hi (show escS s=escU s by rw [HS.out,if_neg (of_decide_eq_false hB'.out.symm)])
    clear HS hB';go_wp2_with fail;go_meet;exact ⟨Below.refl _ _,HS2⟩
 case rest=>
  obtain ⟨hbc,HSc⟩:=hcut;clear HS cb hbd c1';have HEc:=Hi (HE.out.below hbc);have hmc:=Hi (cell_below hbc hm0.out);clear HE hm0
  by_cases hp:Lib.hasPrefix (bs s) [92,117,123]=true
  ·have cp':=Hi (show ∀ w,Calls Tryz.prog 156 #[.string s,.string ⟨#[92,117,123]⟩] w fun e w'=>e=.returned (.bool true)∧w=w' from fun w=>by
    have:=cp.out w;rw [show Lib.hasPrefix s.data.toList (⟨#[92,117,123]⟩:ByteArray).data.toList=true from hp] at this
    exact this.mono fun _ _ h=>⟨h.1,h.2.symm⟩)
   have h3:3≤s.size:=by
    unfold Lib.hasPrefix at hp;have:=List.IsPrefix.length_le (List.isPrefixOf_iff_prefix.1 hp);rw [bs_length] at this;exact this
   have HU:=Hi (show escU s=if (Lib.cut (bs (s.extract 3 s.size)) [125]).2.2=false then ([],0) else
    match basedS 16 6 (Lib.cut (bs (s.extract 3 s.size)) [125]).1 with
    | none=>([],0)
    | some v=>if Lib.validRune v=false then ([],0) else (Lib.encodeRuneZ v,(Lib.cut (bs (s.extract 3 s.size)) [125]).1.length+4) by
    unfold escU;rw [if_neg (by rw [hp];simp)])
   have cc:=Hi (fun w (h:w.cell? ⟨5,0,none⟩=some (.int .i64 m0))=>Tryz.strings_Cut (s.extract 3 s.size) ⟨#[125]⟩ m0 w (by have:=size_extract_le s 3 s.size;omega) h)
   have hcl:=Hi (show (Lib.cut (bs (s.extract 3 s.size)) [125]).1.length≤s.size by
    have:=cut_length (bs (s.extract 3 s.size)) [125];have h2:=size_extract_le s 3 s.size;rw [bs_length] at this;omega)
   rw [show (s.extract 3 s.size).data.toList=bs (s.extract 3 s.size) from rfl,show (⟨#[125]⟩:ByteArray).data.toList=[125] from rfl] at cc
   clear hp cp;generalize Lib.cut (bs (s.extract 3 s.size)) [125]=q at *;obtain ⟨ds,q2,ok⟩:=q;dsimp only at cc HU hcl
   cases ok with
   | false=>
     have HU2:=Hi (show escS s=([],0) by rw [HSc.out,HU.out];rfl)
     clear HU HSc;go_wp2_with fail;refine (cp'.out _).mono ?_;rintro e w2 ⟨rfl,rfl⟩;go_wp2_with fail;refine (cc.out _ hmc.out).mono ?_;rintro e w2 ⟨rfl,n2,rfl⟩;go_wp2_with fail;go_ret2;rw [HU2.out];exact esc_nil _ _ (below_drewN hbc _)
   | true=>
     have cb:=Hi (fun w E=>based_any 16 6 (.inl ⟨rfl,by decide⟩) (ByteArray.mk ds.toArray) (by rw [size_mk];have:=hcl.out;omega) w E)
     rw [show bs (ByteArray.mk ds.toArray)=ds by simp [bs]] at cb
     have hbd:=Hi (show ∀ v,basedS 16 6 ds=some v→v<16777216 from fun v h=>basedS_bd h)
     have HU2:=Hi (show escS s=match basedS 16 6 ds with
      | none=>([],0)
      | some v=>if Lib.validRune v=false then ([],0) else (Lib.encodeRuneZ v,ds.length+4) by rw [HSc.out,HU.out];rfl)
     clear HU HSc;have hsz:((ByteArray.mk ds.toArray).size:Int)=(ds.length:Int):=by rw [size_mk]
     generalize basedS 16 6 ds=o at *;have hcl':=hcl.out
     cases o with
     | none=>
       have HU3:=Hi (show escS s=([],0) from HU2.out)
       clear HU2;unfold optT at cb;dsimp only [Option.getD_none,Option.isSome_none] at cb;go_wp2_with fail;refine (cp'.out _).mono ?_;rintro e w2 ⟨rfl,rfl⟩;go_wp2_with fail;refine (cc.out _ hmc.out).mono ?_;rintro e w2 ⟨rfl,n2,rfl⟩;go_wp2_with fail;refine (cb.out _ (HEc.out.drewN _)).mono ?_;rintro e w3 ⟨rfl,hb3⟩;go_wp2_with fail;go_ret2;rw [HU3.out];exact esc_nil _ _ ((below_drewN hbc n2).trans (hb3.mono (below_drewN hbc n2).size))
     | some v=>
       have hv:v<16777216:=hbd.out v rfl;unfold optT at cb;dsimp only [Option.getD_some,Option.isSome_some] at cb;have cv:=Hi (fun w=>Tryz.utf8_ValidRune (v:Int) w)
       by_cases hok:Lib.validRune v=true
       ·have HU3:=Hi (show escS s=(Lib.encodeRuneZ v,ds.length+4) by
         rw [HU2.out];show (if Lib.validRune v=false then _ else _)=_;rw [hok];rfl)
        rw [hok] at cv;have ca:=Hi (fun w=>Tryz.utf8_AppendRune_plain w.heap.size (.slice none 0 0) 0 [] (v:Int) (by omega) (by omega) w (World.ownsRow_nil _ _ _ _) (by decide) (Nat.le_refl _))
        clear HU2 hok;go_wp2_with fail;refine (cp'.out _).mono ?_;rintro e w2 ⟨rfl,rfl⟩;go_wp2_with fail;refine (cc.out _ hmc.out).mono ?_;rintro e w2 ⟨rfl,n2,rfl⟩;go_wp2_with fail;refine (cb.out _ (HEc.out.drewN _)).mono ?_;rintro e w3 ⟨rfl,hb3⟩;go_wp2_with fail;refine (cv.out _).mono ?_;rintro e w4 ⟨rfl,rfl⟩;go_wp2_with fail;refine (ca.out _).mono ?_;rintro e w5 ⟨v5,rfl,hown5,o5,hg5⟩;go_wp2_with fail;go_ret2;rw [HU3.out];refine ⟨v5,?_,?_,below_grown_none ((below_drewN hbc n2).trans (hb3.mono (below_drewN hbc n2).size)) (Nat.le_trans (below_drewN hbc n2).size hb3.size) hg5⟩
        ·first|rfl|(simp [size_mk])
        ·have h5:=own_base hown5 (Nat.le_trans (below_drewN hbc n2).size hb3.size);rw [Nat.zero_add,List.nil_append,show (Lib.runeCells (v:Int)).length=(Lib.encodeRuneZ v).length by simp [Lib.runeCells]] at h5
         exact h5
       ·have hok':Lib.validRune v=false:=by simpa using hok
        have HU3:=Hi (show escS s=([],0) by
         rw [HU2.out];show (if Lib.validRune v=false then _ else _)=_;rw [hok'];rfl)
        rw [hok'] at cv;clear HU2 hok hok';go_wp2_with fail;refine (cp'.out _).mono ?_;rintro e w2 ⟨rfl,rfl⟩;go_wp2_with fail;refine (cc.out _ hmc.out).mono ?_;rintro e w2 ⟨rfl,n2,rfl⟩;go_wp2_with fail;refine (cb.out _ (HEc.out.drewN _)).mono ?_;rintro e w3 ⟨rfl,hb3⟩;go_wp2_with fail;refine (cv.out _).mono ?_;rintro e w4 ⟨rfl,rfl⟩;go_wp2_with fail;go_ret2;rw [HU3.out];exact esc_nil _ _ ((below_drewN hbc n2).trans (hb3.mono (below_drewN hbc n2).size))
  ·have cp':=Hi (show ∀ w,Calls Tryz.prog 156 #[.string s,.string ⟨#[92,117,123]⟩] w fun e w'=>e=.returned (.bool false)∧w=w' from fun w=>by
    have:=cp.out w;rw [show Lib.hasPrefix s.data.toList (⟨#[92,117,123]⟩:ByteArray).data.toList=false by simpa [bs] using hp] at this
    exact this.mono fun _ _ h=>⟨h.1,h.2.symm⟩)
   have HU2:=Hi (show escS s=([],0) by rw [HSc.out];unfold escU;rw [if_pos (by simpa using hp)])
   clear HSc hp cp;go_wp2_with fail;refine (cp'.out _).mono ?_;rintro e w2 ⟨rfl,rfl⟩;go_wp2_with fail;go_ret2;rw [HU2.out];exact esc_nil _ _ hbc
theorem get_extract (s:ByteArray)(a j:Nat)(h:a+j<s.size):(s.extract a s.size).get! j=s.get! (a+j):=by
 have h2:j<(s.extract a s.size).size:=by simp [ByteArray.size_extract];omega
 have e1:=get_at (s.extract a s.size) j h2;have e2:=get_at s (a+j) h;rw [Nat.add_zero] at e1 e2;rw [e1,e2];have h3:=bs_at (s.extract a s.size) j h2;have h4:=bs_at s (a+j) h;rw [bs_from,List.getElem?_drop] at h3;rw [h3] at h4;exact Option.some.inj h4
theorem decode_extract (s:ByteArray)(a p:Nat)(ha:a≤s.size)(h:a+p<s.size):Utf8.decode (s.extract a s.size) p=Utf8.decode s (a+p):=by
 have hs:(s.extract a s.size).size=s.size-a:=by simp [ByteArray.size_extract]
 have g:∀ k,a+p+k<s.size→(s.extract a s.size).get! (p+k)=s.get! (a+p+k):=fun k hk=>by
  rw [get_extract s a (p+k) (by omega)];congr 1;omega
 have c:∀ k,(decide (p+k<(s.extract a s.size).size) && (((s.extract a s.size).get! (p+k)).toNat / 64 == 2))=(decide (a+p+k<s.size) && ((s.get! (a+p+k)).toNat / 64 == 2)):=fun k=>by
  by_cases hk:a+p+k<s.size
  ·rw [g k hk,decide_eq_true hk,decide_eq_true (by omega)]
  ·rw [decide_eq_false hk,decide_eq_false (by omega)];rfl
 unfold Utf8.decode;simp only [c 1,c 2,c 3,g 0 (by omega)]
 by_cases h1:a+p+1<s.size
 ·simp only [g 1 h1]
  by_cases h2:a+p+2<s.size
  ·simp only [g 2 h2]
   by_cases h3:a+p+3<s.size
   ·simp only [g 3 h3,Nat.add_zero]
   ·simp only [decide_eq_false h3,Bool.false_and,Bool.and_false,Bool.false_eq_true,if_false,Nat.add_zero]
  ·have h3:¬ a+p+3<s.size:=by omega
   simp only [decide_eq_false h3,decide_eq_false h2,Bool.false_and,Bool.and_false,Bool.false_eq_true,if_false,Nat.add_zero]
 ·have h3:¬ a+p+3<s.size:=by omega
  have h2:¬ a+p+2<s.size:=by omega
  simp only [decide_eq_false h3,decide_eq_false h2,decide_eq_false h1,Bool.false_and,Bool.and_false,Bool.false_eq_true,if_false,Nat.add_zero]
theorem width_le (s:ByteArray)(p:Nat)(h:p<s.size):p+(Utf8.decode s p).2≤s.size:=by
 unfold Utf8.decode;simp only [Bool.and_eq_true,decide_eq_true_eq]
 (repeat' split)<;>simp only []<;>omega
def speakS (s:ByteArray)(lines:Bool):Nat→Nat→List Int→List Int×Nat×Int
 | 0,i,_=>([],i,32)
 | n+1,i,said=>
   if i<s.size then
    if (Utf8.decode s i).1=34 then (said,i+1,0)
    else if (Utf8.decode s i).1=92 then
     if (escS (s.extract i s.size)).2=0 then ([],i,34)
     else speakS s lines n (i+(escS (s.extract i s.size)).2) (said++(escS (s.extract i s.size)).1)
    else if (Utf8.decode s i).1=10∧lines=true then ([],i,32)
    else if (Utf8.decode s i).1<32∨(Utf8.decode s i).1=127∨looseS s i (Utf8.decode s i).1=true then ([],i,33)
    else speakS s lines n (i+(Utf8.decode s i).2) (said++Lib.encodeRuneZ (Utf8.decode s i).1)
   else ([],s.size,32)
def SpkPost (w:World)(R:List Int×Nat×Int)(e:Ending)(w':World):Prop:=
 ∃ sv,e=.returned (.tuple #[sv,.int .i64 R.2.1,.int .i64 R.2.2])∧w'.ownsRow w.heap.size 5 1 sv R.1.length (u8s R.1)∧Below w.heap.size w w'
theorem spk_err (w w':World)(i:Nat)(k:Int)(hb:Below w.heap.size w w')(R:List Int×Nat×Int)(h:R=([],i,k)) :
 SpkPost w R (.returned (.tuple #[.slice none 0 0,.int .i64 i,.int .i64 k])) w':=by subst h;exact ⟨_,rfl,World.ownsRow_nil _ _ _ _,hb⟩
theorem escS_le (s:ByteArray):(escS s).2≤s.size∧((escS s).2≠0→1≤(escS s).1.length∧(escS s).1.length≤4):=by
 have hz:∀ r:Int,1≤(Lib.encodeRuneZ r).length∧(Lib.encodeRuneZ r).length≤4:=fun r=>by
  unfold Lib.encodeRuneZ;(repeat' split)<;>simp
 have hU:(escU s).2≤s.size∧((escU s).2≠0→1≤(escU s).1.length∧(escU s).1.length≤4):=by
  unfold escU
  by_cases hp:Lib.hasPrefix (bs s) [92,117,123]=false
  ·rw [if_pos hp];simp
  ·rw [if_neg hp]
   have h3:3≤s.size:=by
    have hp':Lib.hasPrefix (bs s) [92,117,123]=true:=by simpa using hp
    unfold Lib.hasPrefix at hp';have:=List.IsPrefix.length_le (List.isPrefixOf_iff_prefix.1 hp');rw [bs_length] at this;exact this
   unfold Lib.cut
   by_cases hi:0≤Lib.index (bs (s.extract 3 s.size)) [125]
   ·rw [if_pos hi];dsimp only;rw [if_neg (by simp)]
    have hil:(Lib.index (bs (s.extract 3 s.size)) [125]).toNat+1≤(bs (s.extract 3 s.size)).length:=by
     rw [Lib.index_one] at hi ⊢;obtain ⟨o,ho⟩:=Int.eq_ofNat_of_zero_le hi;rw [ho];have h1:=(Lib.indexByte_some ho).1;have h2:=(List.getElem?_eq_some_iff.1 h1).1
     simp;omega
    rw [bs_length,ByteArray.size_extract] at hil
    split
    ·simp
    ·split
     ·simp
     ·dsimp only;rw [List.length_take];refine ⟨by omega,fun _=>hz _⟩
   ·rw [if_neg hi]
    simp
 unfold escS
 by_cases h2:s.size<2
 ·rw [dif_pos h2];simp
 ·rw [dif_neg h2]
  (repeat' split)<;>first|exact hU|(simp;done)|(simp;omega)|(rename_i v h;have h4:4≤s.size:=Classical.byContradiction (fun hc=>by rw [if_neg (fun h'=>hc h'.2)] at h;cases h);simp;omega)
def SpkJ (s:ByteArray)(lines:Bool)(w0:World)(R:List Int×Nat×Int):Act→World→Prop:=fun a' w'=>
 ∃ (p n:Nat) (pz:Int) (said:List Int) (v:Value) (u8 u9 u10 u11 u12 u13 u14 u15 u16 u17 u18 u19 u20 u21 u22 u23 u24 u25 u26 u27 u28 u29 u30 u31 u32 u33 u34 u35 u36 u37 u38 u39 u40 u41 u42 u43 u44 u45 u46 u47 u48 u49 u50 u51 u52 u53 u54 u55 u56 u57 u58 u59 u60 u61 u62 u63 u64 u65 u66 u67 u68 u69 u70 u71 u72 u73:Value),
  a'={ tmps:=#[.string s,.bool lines,undef,undef,v,.int .i64 0,.int .i64 0,.int .i64 pz,u8,u9,u10,u11,u12,u13,u14,u15,u16,u17,u18,u19,u20,u21,u22,u23,u24,u25,u26,u27,u28,u29,u30,u31,u32,u33,u34,u35,u36,u37,u38,u39,u40,u41,u42,u43,u44,u45,u46,u47,u48,u49,u50,u51,u52,u53,u54,u55,u56,u57,u58,u59,u60,u61,u62,u63,u64,u65,u66,u67,u68,u69,u70,u71,u72,u73],defers:=[] } ∧
  pz=(p:Int)∧p≤s.size∧s.size-p<n∧said.length≤4*p∧Hid (R=speakS s lines n p said)∧Hid (w'.ownsRow w0.heap.size 5 1 v said.length (u8s said))∧Below w0.heap.size w0 w'
theorem wp_scope_again {P:Program}{a:Act}{w:World}{Q:Exit→Act→World→Prop}{c y:Code}(l:Nat)(J:Act→World→Prop)(μ : Act→World→Nat)(hf:findLabel c l=some (Code.seq .skip y))
 (pass:∀ a w,J a w→y.wp P (Exit.jump l (fun a' w'=>J a' w'∧μ a' w' < μ a w) Q) a w)
 (first:(∀ a w,J a w→y.wp P (Exit.jump l J Q) a w)→c.wp P (Exit.jump l J Q) a w):(Code.scope c).wp P Q a w:=
 wp_scope_jumps l J μ hf (first fun a w hJ=>Code.wp_mono (fun e a' w' h=>by
  cases e<;>first|exact h|exact ⟨h.1,h.2.1⟩) (pass a w hJ)) fun a w hJ=>wp_seq (wp_skip (pass a w hJ))
def Exit.jumps (J:Nat→Act→World→Prop)(Q:Exit→Act→World→Prop):Exit→Act→World→Prop
 | .goto l,a,w=>J l a w
 | e,a,w=>Q e a w
theorem wp_scope_many {P:Program}{a:Act}{w:World}{Q:Exit→Act→World→Prop}{c:Code}(J:Nat→Act→World→Prop)(μ : Nat→Act→World→Nat)
 (pass:∀ l a w,J l a w→∃ rest,findLabel c l=some rest∧rest.wp P (Exit.jumps (fun l' a' w'=>J l' a' w'∧μ l' a' w' < μ l a w) Q) a w)
 (first:c.wp P (Exit.jumps J Q) a w):(Code.scope c).wp P Q a w:=by
 intro b k cs
 have key:∀ n l a w,μ l a w=n→J l a w→∀ rest,findLabel c l=some rest→∃ e a' w',Q e a' w'∧Arrives P (lone (b.at a (.code rest::.inScope c::k)) cs w) b k cs e a' w':=by
  intro n
  induction n using Nat.strongRecOn with
  | _ n ih=>
    intro l a w hn hJ rest hr;obtain ⟨rest',hr',hp⟩:=pass l a w hJ;rw [hr] at hr'
    cases hr'
    obtain ⟨e,a₁,w₁,hq,harr⟩:=hp b (.inScope c::k) cs
    cases e with
    | normal=>exact ⟨.normal,a₁,w₁,hq,Steps.trans harr (.one step_inScope)⟩
    | exit id=>exact ⟨.exit id,a₁,w₁,hq,fun k' hk=>harr k' (by simp [exitTo,hk])⟩
    | goto l'=>
      obtain ⟨hJ',hlt⟩:=hq;obtain ⟨rest₂,hr₂,_⟩:=pass l' a₁ w₁ hJ';obtain ⟨e₂,a₂,w₂,hq₂,harr₂⟩:=ih _ (by omega) l' a₁ w₁ rfl hJ' rest₂ hr₂
      exact ⟨e₂,a₂,w₂,hq₂,.of_steps (harr _ (by simp [gotoIn,hr₂])) harr₂⟩
    | ret=>exact ⟨_,a₁,w₁,hq,harr⟩
    | panic ch=>exact ⟨_,a₁,w₁,hq,harr⟩
    | outgrown=>exact ⟨_,a₁,w₁,hq,harr⟩
 obtain ⟨e,a₁,w₁,hq,harr⟩:=first b (.inScope c::k) cs
 cases e with
 | normal=>exact ⟨.normal,a₁,w₁,hq,.head step_scope (Steps.trans harr (.one step_inScope))⟩
 | exit id=>exact ⟨.exit id,a₁,w₁,hq,fun k' hk=>.head step_scope (harr k' (by simp [exitTo,hk]))⟩
 | goto l'=>
   obtain ⟨rest₂,hr₂,_⟩:=pass l' a₁ w₁ hq;obtain ⟨e₂,a₂,w₂,hq₂,harr₂⟩:=key _ l' a₁ w₁ rfl hq rest₂ hr₂;exact ⟨e₂,a₂,w₂,hq₂,.of_steps (.head step_scope (harr _ (by simp [gotoIn,hr₂]))) harr₂⟩
 | ret=>exact ⟨_,a₁,w₁,hq,.of_steps (.one step_scope) harr⟩
 | panic ch=>exact ⟨_,a₁,w₁,hq,.of_steps (.one step_scope) harr⟩
 | outgrown=>exact ⟨_,a₁,w₁,hq,.of_steps (.one step_scope) harr⟩
theorem wp_scope_many2 {P:Program}{a:Act}{w:World}{Q:Exit→Act→World→Prop}{c:Code}(J:Nat→Act→World→Prop)(μ : Nat→Act→World→Nat)
 (pass:∀ l a w,J l a w→∃ y,findLabel c l=some (Code.seq .skip y)∧y.wp P (Exit.jumps (fun l' a' w'=>J l' a' w'∧μ l' a' w' < μ l a w) Q) a w)
 (first:(∀ l a w,J l a w→∃ y,findLabel c l=some (Code.seq .skip y)∧y.wp P (Exit.jumps J Q) a w)→c.wp P (Exit.jumps J Q) a w):(Code.scope c).wp P Q a w:=
 wp_scope_many J μ (fun l a w h=>let ⟨y,hy,hw⟩:=pass l a w h;⟨_,hy,wp_seq (wp_skip hw)⟩) (first fun l a w h=>let ⟨y,hy,hw⟩:=pass l a w h;⟨y,hy,Code.wp_mono (fun e a' w' h'=>by
  cases e<;>first|exact h'|exact h'.1) hw⟩)
theorem wp_label_then {P:Program}{a:Act}{w:World}{Q:Exit→Act→World→Prop}{l:Nat}{y:Code}(h:y.wp P Q a w):(Code.seq (.label l) y).wp P Q a w:=
 wp_seq (wp_label h)
theorem heap_iterAt_ne {w:World}{s:ByteArray}{p k:Nat}{g:Nat}(h:g≠k):(w.iterAt k s p).heap[g]?=w.heap[g]?:=by
 show (w.heap.setIfInBounds k _)[g]?=_
 rw [Array.getElem?_setIfInBounds,if_neg (Ne.symm h)]
theorem own_heap {w w':World}{base:Nat}{e:TypeId}{size n:Nat}{v:Value}{xs:List Value}(h:w.ownsRow base e size v n xs)(hk:∀ g,v.ownBlock=some g→w'.heap[g]?=w.heap[g]?):w'.ownsRow base e size v n xs:=by
 obtain ⟨h1,h2⟩:=h;refine ⟨h1,?_⟩;rcases h2 with h2|⟨g,cap,cur,rfl,hg,hh,r⟩
 ·exact .inl h2
 ·exact .inr ⟨g,cap,cur,rfl,hg,(hk g rfl).trans hh,r⟩
theorem u8_info:(Tryz.prog.info? 5).map (fun i=>(i.zero,i.size,i.bytes))=some (some (.int .u8 0),1,1):=by kernel_rfl
theorem u8s_one (l:List Int):∀ u∈u8s l,u.oneCell'=true:=by
 intro u hu;obtain ⟨x,_,rfl⟩:=List.mem_map.1 hu
 rfl
theorem own_below {w w':World}{base:Nat}{e:TypeId}{size n:Nat}{v:Value}{xs:List Value}(h:w.ownsRow base e size v n xs)(hb:Below w.heap.size w w'):w'.ownsRow base e size v n xs:=
 own_heap h fun g hg=>hb.block g (h.lt g hg).2
theorem own_not_iter {w:World}{base:Nat}{e:TypeId}{size n:Nat}{v:Value}{xs:List Value}(h:w.ownsRow base e size v n xs){k p:Nat}{s:ByteArray}(hi:w.heap[k]?=some (.stringIter s p)):∀ g,v.ownBlock=some g→g≠k:=by
 intro g hg;rcases h.2 with ⟨rfl,_⟩|⟨g',cap,cur,rfl,_,hh,_⟩
 ·simp [Value.ownBlock] at hg
 ·simp [Value.ownBlock] at hg
  subst hg;rintro rfl;rw [hi] at hh;cases hh
theorem speak_any (s:ByteArray)(lines:Bool)(h1:1≤s.size)(hs:s.size<4294967281)(w:World)(E:Env w) :
 Calls Tryz.prog 86 #[.string s,.bool lines] w fun e w'=>SpkPost w (speakS s lines (s.size+1) 1 []) e w':=by
 have HE:=Hi E;clear E;obtain ⟨R,hR0⟩:∃ R,R=speakS s lines (s.size+1) 1 []:=⟨_,rfl⟩
 rw [← hR0];have HR0:=Hi hR0;clear hR0;go_enter Tryz.func86,Tryz.ntmps86;go_wp2_with fail;refine wp_scope_again 0 (SpkJ s lines w R) (fun a _=>s.size-(intOf (a.tmps.getD 7 undef)).toNat) rfl ?_ ?_
 ·rintro a' w' ⟨p,n,_,said,v,u8,u9,u10,u11,u12,u13,u14,u15,u16,u17,u18,u19,u20,u21,u22,u23,u24,u25,u26,u27,u28,u29,u30,u31,u32,u33,u34,u35,u36,u37,u38,u39,u40,u41,u42,u43,u44,u45,u46,u47,u48,u49,u50,u51,u52,u53,u54,u55,u56,u57,u58,u59,u60,u61,u62,u63,u64,u65,u66,u67,u68,u69,u70,u71,u72,u73,rfl,rfl,hp,hn,hl,hR,hO,hb⟩;have hp1:(p:Int)≤(s.size:Int):=by omega
  go_wp2_with fail;obtain ⟨q,hq⟩:∃ q,q=s.extract p s.size:=⟨_,rfl⟩
  have hqs:q.size=s.size-p:=by rw [hq,ByteArray.size_extract];omega
  have hdec:=Hi (show ∀ j,j<q.size→Utf8.decode q j=Utf8.decode s (j+p) from fun j hj=>by
   rw [hq,decode_extract s p j hp (by omega),Nat.add_comm])
  rw [← hq];clear hq;obtain ⟨Bi,hBi⟩:∃ Bi,Bi=w'.heap.size:=⟨_,rfl⟩
  have hBw:w.heap.size≤Bi:=by rw [hBi];exact hb.size
  have hit0:=Hi (World.iter_heap w' q 0);have hb0:Below w.heap.size w (w'.iter q 0):=hb.alloc hb.size _;have hO0:Hid ((w'.iter q 0).ownsRow w.heap.size 5 1 v said.length (u8s said)):=Hi (hO.out.alloc _);rw [← hBi] at hit0 ⊢;obtain ⟨wi,hwi⟩:∃ wi,wi=w'.iter q 0:=⟨_,rfl⟩
  rw [← hwi] at hit0 hb0 hO0 ⊢;clear hwi hBi hO hb
  go_loopw [4,5,6,7] (fun vs v5 v6 v7 wr=>∃ (j m:Nat) (sd:List Int),v5=.int .i64 0∧v6=.int .i64 0∧v7=.int .i64 p∧j≤q.size∧wr.heap[Bi]?=some (.stringIter q j)∧s.size-(j+p)<m∧sd.length≤4*(j+p)∧Hid (R=speakS s lines m (j+p) sd)∧Hid (wr.ownsRow w.heap.size 5 1 vs sd.length (u8s sd))∧Below w.heap.size w wr) (fun _ _ _ _ wr=>q.size-wr.iterPos Bi)
  case atStart=>exact ⟨0,n,said,rfl,rfl,rfl,by omega,hit0.out,by omega,by omega,by rw [Nat.zero_add];exact hR,hO0,hb0⟩
  case round=>
   obtain ⟨j,m,sd,rfl,rfl,rfl,hj,hit,hm,hsl,hr,ho,hbr⟩:=hrel;obtain ⟨m,rfl⟩:∃ k,m=k+1:=⟨m-1,by omega⟩
   clear hR hO0 hb0 hit0
   by_cases hlt:j<q.size
   ·have hnx:=fun ty=>Lib.run_next_any_at (P:=Tryz.prog) wr Bi q j ty hit hlt
    have hwd:=width_pos q j hlt;have hwl:=width_le q j hlt;have hcle:=decode_le q j;have HU:=Hi (hr.out.trans (show speakS s lines (m+1) (j+p) sd=_ by rw [speakS,if_pos (show j+p<s.size by omega)]))
    rw [← hdec.out j hlt] at HU;have hlo:=Hi (fun c w E=>loose_any s (j+p) c (by omega) w E)
    have hit2:=Hi (Lib.iterAt_heap wr Bi q j (j+(Utf8.decode q j).2) hit);have ho2:Hid ((wr.iterAt Bi q (j+(Utf8.decode q j).2)).ownsRow w.heap.size 5 1 u4 sd.length (u8s sd)):=Hi (own_heap ho.out (fun g hg=>heap_iterAt_ne (own_not_iter ho.out hit g hg)))
    have hb2:Below w.heap.size w (wr.iterAt Bi q (j+(Utf8.decode q j).2)):=hbr.trans ⟨rfl,rfl,rfl,by simp [World.iterAt],fun i hi=>heap_iterAt_ne (by omega)⟩
    have hpos:=Hi (show wr.iterPos Bi=j by simp [World.iterPos,hit])
    obtain ⟨W2,hW2⟩:∃ W2,W2=wr.iterAt Bi q (j+(Utf8.decode q j).2):=⟨_,rfl⟩
    rw [← hW2] at hnx hit2 ho2 hb2;have HE2:=Hi (HE.out.below hb2);clear hW2 hr ho hit hbr;generalize Utf8.decode q j=cw at *;obtain ⟨c,wd⟩:=cw;dsimp only at *
    by_cases h34:c=34
    ·have H:=Hi (HU.out.trans (if_pos h34));subst h34;clear HU;go_wp2_with fail
     (try simp only [Exit.jump])
     go_ret3
     exact ⟨u4,by rw [H.out];first|rfl|(simp;done)|(simp;omega),by rw [H.out];exact ho2.out,hb2⟩
    have b34:((c:Int) == 34)=false:=by simp;omega
    have HU:=Hi (HU.out.trans (if_neg h34))
    by_cases h92:c=92
    ·have HU:=Hi (HU.out.trans (if_pos h92));subst h92;have ce:=Hi (fun w E=>escape_any (s.extract (j+p) s.size) (by have:=size_extract_le s (j+p) s.size;omega) w E)
     have hel:=Hi (escS_le (s.extract (j+p) s.size));have hes:(s.extract (j+p) s.size).size=s.size-(j+p):=by rw [ByteArray.size_extract];omega
     rw [hes] at hel;generalize escS (s.extract (j+p) s.size)=es at *;obtain ⟨eb,ek⟩:=es;dsimp only at HU hel;clear hes;go_wp2_with fail;refine (ce.out _ HE2.out).mono ?_;rintro e w3 ⟨sv,rfl,hso,hb3⟩;dsimp only at hso
     by_cases hk0:ek=0
     ·have H:=Hi (HU.out.trans (if_pos hk0));subst hk0;clear HU;go_wp2_with fail
      (try simp only [Exit.jump])
      go_ret3
      exact spk_err _ _ _ _ (hb2.trans (hb3.mono hb2.size)) _ H.out
     ·have H:=Hi (HU.out.trans (if_neg hk0));have bk0:((ek:Int) == 0)=false:=by simp;omega
      clear HU;obtain ⟨g,capg,rfl,hgb,hgl⟩:=hso.form (by have:=hel.out.2 hk0;omega)
      have ho3:=Hi (own_below ho2.out hb3);have hsoc:=Hi (hso.cells (g:=g) rfl);have hb3':=hb2.trans (hb3.mono hb2.size);have hbase:=Hi (ho2.out.lt);obtain ⟨i0,hi,hz0,hz1,hz2⟩:=info_parts u8_info;have hi:=Hi hi;have hz0:=Hi hz0;have hz1:=Hi hz1;have hz2:=Hi hz2;have hso:=Hi hso;have hle1:=hel.out.1;have hle2:=hel.out.2 hk0;go_wp2_with (at_builtin;refine wpList_append_own _ rfl (.tmp 42) (.tmp 43) _ rfl w.heap.size 5 i0 _ 1 1 Tryz.underlying144 hi.out hz0.out hz1.out hz2.out rfl (by decide) u4 sd.length (u8s sd) rfl ho3.out ⟨g,0,none⟩ eb.length capg (u8s eb) rfl (by simp [u8s]) hsoc.out (u8s_one _) (by unfold maxLen;omega) (by omega) hb3'.size ?_;intro v4 w4 hown4 hg4 _)
      go_step3;refine ⟨rfl,⟨j+p+ek,m,_,sd++eb,v4,_,_,_,_,_,_,_,_,_,_,_,_,_,_,_,_,_,_,_,_,_,_,_,_,_,_,_,_,_,_,_,_,_,_,_,_,_,_,_,_,_,_,_,_,_,_,_,_,_,_,_,_,_,_,_,_,_,_,_,_,_,_,_,_,_,_,rfl,by omega,by omega,by omega,by rw [List.length_append];omega,H,Hi ?_,hb3'.grown hg4 hb3'.size (fun k hk=>(hbase.out k hk).1)⟩,?_⟩
      ·rw [List.length_append,show u8s (sd++eb)=u8s sd++u8s eb from List.map_append];exact hown4
      ·simp [intOf];omega
    ·have b92:((c:Int) == 92)=false:=by simp;omega
     have HU:=Hi (HU.out.trans (if_neg h92));have hc2:c≤2147483647:=hcle
     by_cases h10:c=10∧lines=true
     ·have H:=Hi (HU.out.trans (if_pos h10));obtain ⟨rfl,rfl⟩:=h10;clear HU;go_wp2_with fail
      (try simp only [Exit.jump])
      go_ret3
      exact spk_err _ _ _ _ hb2 _ H.out
     ·have HU:=Hi (HU.out.trans (if_neg h10))
      by_cases hlo1:c<32∨c=127
      ·have H:=Hi (HU.out.trans (if_pos (by rcases hlo1 with h|h;exact .inl h;exact .inr (.inl h))))
       clear HU
       by_cases h10':c=10
       ·subst h10';have hl0:lines=false:=by simpa using h10
        subst hl0;go_wp2_with fail
        (try simp only [Exit.jump])
        go_ret3
        exact spk_err _ _ _ _ hb2 _ H.out
       ·have b10:((c:Int) == 10)=false:=by simp;omega
        rcases hlo1 with h|h
        ·go_wp2_with fail
         (try simp only [Exit.jump])
         go_ret3
         exact spk_err _ _ _ _ hb2 _ H.out
        ·subst h;go_wp2_with fail
         (try simp only [Exit.jump])
         go_ret3
         exact spk_err _ _ _ _ hb2 _ H.out
      ·have b10:((c:Int) == 10)=false:=by simp;omega
       have b127:((c:Int) == 127)=false:=by simp;omega
       have b32:(32:Int)≤c:=by omega
       have hl2:=Hi (hlo.out c W2 HE2.out)
       have HU2:=Hi (show R=if looseS s (j+p) c=true then ([],j+p,33) else speakS s lines m (j+p+wd) (sd++Lib.encodeRuneZ c) by
        rw [HU.out]
        by_cases hq:looseS s (j+p) c=true
        ·rw [if_pos (.inr (.inr hq)),if_pos hq]
        ·rw [if_neg (by rintro (h|h|h);exact hlo1 (.inl h);exact hlo1 (.inr h);exact hq h),if_neg hq])
       clear HU hlo;generalize looseS s (j+p) c=L at *;go_wp2_with fail;refine hl2.out.mono ?_;rintro e w3 ⟨rfl,hb3⟩;have hb3':=hb2.trans (hb3.mono hb2.size)
       cases L with
       | true=>
         go_wp2_with fail
         (try simp only [Exit.jump])
         go_ret3
         exact spk_err _ _ _ _ hb3' _ HU2.out
       | false=>
         have H:=Hi (show R=speakS s lines m (j+p+wd) (sd++Lib.encodeRuneZ c) from HU2.out)
         have ho3:=Hi (own_below ho2.out hb3);have hit3:=Hi ((hb3.block Bi (Array.getElem?_eq_some_iff.1 hit2.out).1).trans hit2.out);have hbase:=Hi (ho2.out.lt);have hnit:=Hi (own_not_iter ho3.out hit3.out);have ca:=Hi (Tryz.utf8_AppendRune_plain w.heap.size u4 sd.length (u8s sd) (c:Int) (by omega) (by omega) w3 ho3.out (by omega) hb3'.size)
         have hrl:=Hi (show (Lib.encodeRuneZ (c:Int)).length≤4 by unfold Lib.encodeRuneZ;(repeat' split)<;>simp)
         clear HU2 hl2;go_wp2_with fail;refine ca.out.mono ?_;rintro e w4 ⟨v4,rfl,hown4,o4,hg4⟩;go_wp2_with fail;have hrl':=hrl.out
         go_roundw
         case rel=>
          refine ⟨j+wd,m,sd++Lib.encodeRuneZ c,rfl,rfl,rfl,hwl,?_,by omega,by rw [List.length_append];omega,Hi (by rw [H.out];congr 1;omega),Hi ?_,?_⟩
          ·have hlt3:=(Array.getElem?_eq_some_iff.1 hit3.out).1;rw [hg4.block Bi (by simp;omega) (fun e=>hnit.out Bi e.symm rfl),Below.heap_alloc _ _ _ hlt3]
           exact hit3.out
          ·rw [List.length_append,show u8s (sd++Lib.encodeRuneZ (c:Int))=u8s sd++Lib.runeCells (c:Int) from List.map_append]
           rw [show (Lib.runeCells (c:Int)).length=(Lib.encodeRuneZ (c:Int)).length by simp [Lib.runeCells]] at hown4
           exact hown4
          ·exact (hb3'.alloc hb3'.size o4).grown hg4 (by simp;have:=hb3'.size;omega) (fun k hk=>(hbase.out k hk).1)
         case measure=>
          rw [hpos.out];have hlt3:=(Array.getElem?_eq_some_iff.1 hit3.out).1
          have:w4.iterPos Bi=j+wd:=by
           unfold World.iterPos;rw [hg4.block Bi (by simp;omega) (fun e=>hnit.out Bi e.symm rfl),Below.heap_alloc _ _ _ hlt3,hit3.out]
          first|(rw [this];omega)|(simp only [this];omega)
   ·have hnx:=fun ty=>Lib.run_next_end_at (P:=Tryz.prog) wr Bi q j ty hit hlt
    have H:=Hi (hr.out.trans (show speakS s lines (m+1) (j+p) sd=([],s.size,32) by rw [speakS,if_neg (by omega)]))
    clear hr ho hit;go_wp2_with fail
    (try simp only [Exit.jump])
    go_ret3
    exact spk_err _ _ _ _ hbr _ H.out
 ·intro hp;refine wp_seq ?_
  go_step
  go_step
  go_step
  go_step
  go_step
  refine wp_label_then (hp _ _ ?_);exact ⟨1,s.size+1,_,[],_,_,_,_,_,_,_,_,_,_,_,_,_,_,_,_,_,_,_,_,_,_,_,_,_,_,_,_,_,_,_,_,_,_,_,_,_,_,_,_,_,_,_,_,_,_,_,_,_,_,_,_,_,_,_,_,_,_,_,_,_,_,_,_,_,_,_,rfl,rfl,h1,by omega,by simp,HR0,Hi (World.ownsRow_nil _ _ _ _),Below.refl _ _⟩
def tokC (kind:Int)(text:ByteArray)(line col:Int):List Value:=[.int .i64 kind,.string text,.int .i64 line,.int .i64 col]
theorem tok_info:(Tryz.prog.info? 76).map (fun i=>(i.zero,i.size,i.bytes))=some (some (.agg #[.int .i64 0,.string ByteArray.empty,.int .i64 0,.int .i64 0]),4,40):=by kernel_rfl
theorem own_ne_mach {w:World}{M base n:Nat}{m:Mach}{v:Value}{xs:List Value}(h:w.ownsRow base 76 4 v n xs)(hm:MachAt w M m):v.ownBlock≠some M:=by
 rcases h.2 with ⟨rfl,_⟩|⟨g',cap,cur,rfl,_,hh,_⟩
 ·simp [Value.ownBlock]
 ·intro he;have:g'=M:=by simpa [Value.ownBlock] using he
  subst this;unfold MachAt at hm;rw [hh] at hm
  injection hm with hm
  injection hm with _ ht
  exact absurd ht (by decide)
theorem set_far {w:World}{M i j:Nat}{v u:Value}(h:w.cell? ⟨M,i,none⟩=some u)(hne:j≠i):(w.setCell ⟨M,j,none⟩ v).cell? ⟨M,i,none⟩=some u:=by
 rw [World.cell?_setCell_other]
 ·exact h
 ·intro e;exact hne (congrArg Addr.off e)
attribute [local go_sem ↓] Go.wp_at_zero Go.wp_at_succ
theorem put_any (M:Nat)(m:Mach)(kind:Int)(size n:Nat)(xs:List Value)(w:World)(hm:MachAt w M m)(hown:w.ownsRow (M+1) 76 4 m.toks n xs)(hn:n≤8589934592)
 (hsz:m.pos+size≤m.text.size) (ht:m.text.size≤4294967295) (hc0:0≤m.col) (hc1:m.col≤4611686018427387904) :
 Calls Tryz.prog 63 #[.pointer (some ⟨M,0,none⟩),.int .i64 kind,.int .i64 size] w fun e w'=>e=.returned (.tuple #[])∧∃ v,
  MachAt w' M { m with pos:=m.pos+size,col:=m.col+runesFrom (m.text.extract m.pos (m.pos+size)) 0,opn:=true,toks:=v } ∧
  w'.ownsRow (M+1) 76 4 v (n+1) (xs++tokC kind (m.text.extract m.pos (m.pos+size)) m.line m.col)∧Below M w w':=by
 obtain ⟨text,pos,line,col,opn,toks⟩:=m;dsimp only at *;have q0:=hm.c0;have q1:=hm.c1;have q2:=hm.c2;have q3:=hm.c3;have q5:=hm.c5;have hM:=Hi hm;have hO:=Hi hown;have hne:=Hi (own_ne_mach hown hm);have hfz:=hm.free 5;have hlt:=hm.lt;clear hm;dsimp only at q0 q1 q2 q3 q5;have bw:IntKind.i64.wrap ((pos:Int)+(size:Int))=(pos:Int)+(size:Int):=IntWalk.i64_in _ (by omega)
 have b0:(0:Int)≤(pos:Int):=by omega
 have b1:(pos:Int)≤(pos:Int)+(size:Int):=by omega
 have b2:(pos:Int)+(size:Int)≤(text.size:Int):=by omega
 obtain ⟨i0,hi,hz0,hz1,hz2⟩:=info_parts tok_info;have hi:=Hi hi;have hz0:=Hi hz0;have hz1:=Hi hz1;have hz2:=Hi hz2;go_enter Tryz.func63,Tryz.ntmps63;go_wp2_with fail;have n5:=World.new_ne w ⟨M,5,none⟩ q5;clear hown;refine wp_region_held_drew (S:=(fun w'=>w'.cell? ⟨M,0,none⟩=some (.string text)∧w'.cell? ⟨M,1,none⟩=some (.int .i64 pos)∧w'.cell? ⟨M,2,none⟩=some (.int .i64 line)∧w'.cell? ⟨M,3,none⟩=some (.int .i64 col))) (by kernel_rfl) ⟨q0,q1,q2,q3⟩ (fun hHeld=>?_)
 refine' wpAnyH_take (i:=0) (oi:=_) (v:=_) ?a0 ?b0 ?c0 ?d0 ?e0 (Or.inl ⟨?f0,?g0⟩) hHeld ?h0
 case a0=>(simp only [List.getElem?_toArray,List.getElem?_cons_zero];exact rfl)
 case b0|c0|d0=>kernel_rfl
 case e0=>exact fun _ _ _ h=>h
 case f0=>rfl
 case g0=>(intro w' hSw;obtain ⟨s0,s1,s2,s3⟩:=hSw;go_simp;(try with_reducible rfl))
 simp only [Act.put,List.setIfInBounds_toArray,List.set_cons_zero,List.set_cons_succ];refine' wpAnyH_take (i:=1) (oi:=_) (v:=_) ?a1 ?b1 ?c1 ?d1 ?e1 (Or.inl ⟨?f1,?g1⟩) hHeld ?h1
 case a1=>(simp only [List.getElem?_toArray,List.getElem?_cons_succ,List.getElem?_cons_zero];exact rfl)
 case b1|c1|d1=>kernel_rfl
 case e1=>exact fun _ _ _ h=>h
 case f1=>rfl
 case g1=>(intro w' hSw;obtain ⟨s0,s1,s2,s3⟩:=hSw;go_simp;(try with_reducible rfl))
 simp only [Act.put,List.setIfInBounds_toArray,List.set_cons_zero,List.set_cons_succ];refine' wpAnyH_take (i:=2) (oi:=_) (v:=_) ?a2 ?b2 ?c2 ?d2 ?e2 (Or.inl ⟨?f2,?g2⟩) hHeld ?h2
 case a2=>(simp only [List.getElem?_toArray,List.getElem?_cons_succ,List.getElem?_cons_zero];exact rfl)
 case b2|c2|d2=>kernel_rfl
 case e2=>exact fun _ _ _ h=>h
 case f2=>rfl
 case g2=>(intro w' hSw;obtain ⟨s0,s1,s2,s3⟩:=hSw;go_simp;(try with_reducible rfl))
 simp only [Act.put,List.setIfInBounds_toArray,List.set_cons_zero,List.set_cons_succ];refine' wpAnyH_take (i:=3) (oi:=_) (v:=_) ?a3 ?b3 ?c3 ?d3 ?e3 (Or.inl ⟨?f3,?g3⟩) hHeld ?h3
 case a3=>(simp only [List.getElem?_toArray,List.getElem?_cons_succ,List.getElem?_cons_zero];exact rfl)
 case b3|c3|d3=>kernel_rfl
 case e3=>exact fun _ _ _ h=>h
 case f3=>rfl
 case g3=>(intro w' hSw;obtain ⟨s0,s1,s2,s3⟩:=hSw;go_simp;(try with_reducible rfl))
 simp only [Act.put,List.setIfInBounds_toArray,List.set_cons_zero,List.set_cons_succ];refine' wpAnyH_take (i:=5) (oi:=_) (v:=_) ?a5 ?b5 ?c5 ?d5 ?e5 (Or.inl ⟨?f5,?g5⟩) hHeld ?h5
 case a5=>(simp only [List.getElem?_toArray,List.getElem?_cons_succ,List.getElem?_cons_zero];exact rfl)
 case b5|c5|d5=>kernel_rfl
 case e5=>exact fun _ _ _ h=>h
 case f5=>rfl
 case g5=>(intro w' hSw;obtain ⟨s0,s1,s2,s3⟩:=hSw;go_simp;(try with_reducible rfl))
 simp only [Act.put,List.setIfInBounds_toArray,List.set_cons_zero,List.set_cons_succ];refine' wpAnyH_take (i:=6) (oi:=_) (v:=_) ?a6 ?b6 ?c6 ?d6 ?e6 (Or.inl ⟨?f6,?g6⟩) hHeld ?h6
 case a6=>(simp only [List.getElem?_toArray,List.getElem?_cons_succ,List.getElem?_cons_zero];exact rfl)
 case b6|c6|d6=>kernel_rfl
 case e6=>exact fun _ _ _ h=>h
 case f6=>rfl
 case g6=>(intro w' hSw;obtain ⟨s0,s1,s2,s3⟩:=hSw;go_simp;(try with_reducible rfl))
 simp only [Act.put,List.setIfInBounds_toArray,List.set_cons_zero,List.set_cons_succ];refine' wpAnyH_take (i:=7) (oi:=_) (v:=_) ?a7 ?b7 ?c7 ?d7 ?e7 (Or.inl ⟨?f7,?g7⟩) hHeld ?h7
 case a7=>(simp only [List.getElem?_toArray,List.getElem?_cons_succ,List.getElem?_cons_zero];exact rfl)
 case b7|c7|d7=>kernel_rfl
 case e7=>exact fun _ _ _ h=>h
 case f7=>rfl
 case g7=>(intro w' hSw;obtain ⟨s0,s1,s2,s3⟩:=hSw;go_simp;(try with_reducible rfl))
 simp only [Act.put,List.setIfInBounds_toArray,List.set_cons_zero,List.set_cons_succ];refine' wpAnyH_take (i:=8) (oi:=_) (v:=_) ?a8 ?b8 ?c8 ?d8 ?e8 (Or.inl ⟨?f8,?g8⟩) hHeld ?h8
 case a8=>(simp only [List.getElem?_toArray,List.getElem?_cons_succ,List.getElem?_cons_zero];exact rfl)
 case b8|c8|d8=>kernel_rfl
 case e8=>exact fun _ _ _ h=>h
 case f8=>rfl
 case g8=>(intro w' hSw;obtain ⟨s0,s1,s2,s3⟩:=hSw;go_simp;(try with_reducible rfl))
 simp only [Act.put,List.setIfInBounds_toArray,List.set_cons_zero,List.set_cons_succ];refine' wpAnyH_take (i:=9) (oi:=_) (v:=_) ?a9 ?b9 ?c9 ?d9 ?e9 (Or.inl ⟨?f9,?g9⟩) hHeld ?h9
 case a9=>(simp only [List.getElem?_toArray,List.getElem?_cons_succ,List.getElem?_cons_zero];exact rfl)
 case b9|c9|d9=>kernel_rfl
 case e9=>exact fun _ _ _ h=>h
 case f9=>rfl
 case g9=>(intro w' hSw;obtain ⟨s0,s1,s2,s3⟩:=hSw;go_simp;(try with_reducible rfl))
 simp only [Act.put,List.setIfInBounds_toArray,List.set_cons_zero,List.set_cons_succ];refine' wpAnyH_take (i:=10) (oi:=_) (v:=_) ?a10 ?b10 ?c10 ?d10 ?e10 (Or.inl ⟨?f10,?g10⟩) hHeld ?h10
 case a10=>(simp only [List.getElem?_toArray,List.getElem?_cons_succ,List.getElem?_cons_zero];exact rfl)
 case b10|c10|d10=>kernel_rfl
 case e10=>exact fun _ _ _ h=>h
 case f10=>rfl
 case g10=>(intro w' hSw;obtain ⟨s0,s1,s2,s3⟩:=hSw;go_simp;(try with_reducible rfl))
 simp only [Act.put,List.setIfInBounds_toArray,List.set_cons_zero,List.set_cons_succ];refine' wpAnyH_take (i:=11) (oi:=_) (v:=_) ?a11 ?b11 ?c11 ?d11 ?e11 (Or.inl ⟨?f11,?g11⟩) hHeld ?h11
 case a11=>(simp only [List.getElem?_toArray,List.getElem?_cons_succ,List.getElem?_cons_zero];exact rfl)
 case b11|c11|d11=>kernel_rfl
 case e11=>exact fun _ _ _ h=>h
 case f11=>rfl
 case g11=>(intro w' hSw;obtain ⟨s0,s1,s2,s3⟩:=hSw;go_simp;(try with_reducible rfl))
 simp only [Act.put,List.setIfInBounds_toArray,List.set_cons_zero,List.set_cons_succ];refine' wpAnyH_take (i:=12) (oi:=_) (v:=_) ?a12 ?b12 ?c12 ?d12 ?e12 (Or.inl ⟨?f12,?g12⟩) hHeld ?h12
 case a12=>(simp only [List.getElem?_toArray,List.getElem?_cons_succ,List.getElem?_cons_zero];exact rfl)
 case b12|c12|d12=>kernel_rfl
 case e12=>exact fun _ _ _ h=>h
 case f12=>rfl
 case g12=>(intro w' hSw;obtain ⟨s0,s1,s2,s3⟩:=hSw;go_simp;(try with_reducible rfl))
 simp only [Act.put,List.setIfInBounds_toArray,List.set_cons_zero,List.set_cons_succ];refine' wpAnyH_take (i:=13) (oi:=_) (v:=_) ?a13 ?b13 ?c13 ?d13 ?e13 (Or.inl ⟨?f13,?g13⟩) hHeld ?h13
 case a13=>(simp only [List.getElem?_toArray,List.getElem?_cons_succ,List.getElem?_cons_zero];exact rfl)
 case b13|c13|d13=>kernel_rfl
 case e13=>exact fun _ _ _ h=>h
 case f13=>rfl
 case g13=>(intro w' hSw;obtain ⟨s0,s1,s2,s3⟩:=hSw;go_simp;(try with_reducible rfl))
 simp only [Act.put,List.setIfInBounds_toArray,List.set_cons_zero,List.set_cons_succ];refine' wpAnyH_take (i:=14) (oi:=_) (v:=_) ?a14 ?b14 ?c14 ?d14 ?e14 (Or.inl ⟨?f14,?g14⟩) hHeld ?h14
 case a14=>(simp only [List.getElem?_toArray,List.getElem?_cons_succ,List.getElem?_cons_zero];exact rfl)
 case b14|c14|d14=>kernel_rfl
 case e14=>exact fun _ _ _ h=>h
 case f14=>rfl
 case g14=>(intro w' hSw;obtain ⟨s0,s1,s2,s3⟩:=hSw;go_simp;(try with_reducible rfl))
 simp only [Act.put,List.setIfInBounds_toArray,List.set_cons_zero,List.set_cons_succ];refine' wpAnyH_take (i:=15) (oi:=_) (v:=_) ?a15 ?b15 ?c15 ?d15 ?e15 (Or.inl ⟨?f15,?g15⟩) hHeld ?h15
 case a15=>(simp only [List.getElem?_toArray,List.getElem?_cons_succ,List.getElem?_cons_zero];exact rfl)
 case b15|c15|d15=>kernel_rfl
 case e15=>exact fun _ _ _ h=>h
 case f15=>rfl
 case g15=>(intro w' hSw;obtain ⟨s0,s1,s2,s3⟩:=hSw;go_simp;(try with_reducible rfl))
 simp only [Act.put,List.setIfInBounds_toArray,List.set_cons_zero,List.set_cons_succ];refine' wpAnyH_take (i:=16) (oi:=_) (v:=_) ?a16 ?b16 ?c16 ?d16 ?e16 (Or.inl ⟨?f16,?g16⟩) hHeld ?h16
 case a16=>(simp only [List.getElem?_toArray,List.getElem?_cons_succ,List.getElem?_cons_zero];exact rfl)
 case b16|c16|d16=>kernel_rfl
 case e16=>exact fun _ _ _ h=>h
 case f16=>rfl
 case g16=>(intro w' hSw;obtain ⟨s0,s1,s2,s3⟩:=hSw;go_simp;(try with_reducible rfl))
 simp only [Act.put,List.setIfInBounds_toArray,List.set_cons_zero,List.set_cons_succ];refine' wpAnyH_take (i:=17) (oi:=_) (v:=_) ?a17 ?b17 ?c17 ?d17 ?e17 (Or.inl ⟨?f17,?g17⟩) hHeld ?h17
 case a17=>(simp only [List.getElem?_toArray,List.getElem?_cons_succ,List.getElem?_cons_zero];exact rfl)
 case b17|c17|d17=>kernel_rfl
 case e17=>exact fun _ _ _ h=>h
 case f17=>rfl
 case g17=>(intro w' hSw;obtain ⟨s0,s1,s2,s3⟩:=hSw;go_simp;(try with_reducible rfl))
 simp only [Act.put,List.setIfInBounds_toArray,List.set_cons_zero,List.set_cons_succ];refine' wpAnyH_take (i:=18) (oi:=_) (v:=_) ?a18 ?b18 ?c18 ?d18 ?e18 (Or.inl ⟨?f18,?g18⟩) hHeld ?h18
 case a18=>(simp only [List.getElem?_toArray,List.getElem?_cons_succ,List.getElem?_cons_zero];exact rfl)
 case b18|c18|d18=>kernel_rfl
 case e18=>exact fun _ _ _ h=>h
 case f18=>rfl
 case g18=>(intro w' hSw;obtain ⟨s0,s1,s2,s3⟩:=hSw;go_simp;(try with_reducible rfl))
 simp only [Act.put,List.setIfInBounds_toArray,List.set_cons_zero,List.set_cons_succ];refine' wpAnyH_take (i:=19) (oi:=_) (v:=_) ?a19 ?b19 ?c19 ?d19 ?e19 (Or.inl ⟨?f19,?g19⟩) hHeld ?h19
 case a19=>(simp only [List.getElem?_toArray,List.getElem?_cons_succ,List.getElem?_cons_zero];exact rfl)
 case b19|c19|d19=>kernel_rfl
 case e19=>exact fun _ _ _ h=>h
 case f19=>rfl
 case g19=>(intro w' hSw;obtain ⟨s0,s1,s2,s3⟩:=hSw;go_simp;(try with_reducible rfl))
 simp only [Act.put,List.setIfInBounds_toArray,List.set_cons_zero,List.set_cons_succ];refine' wpAnyH_take (i:=20) (oi:=_) (v:=_) ?a20 ?b20 ?c20 ?d20 ?e20 (Or.inl ⟨?f20,?g20⟩) hHeld ?h20
 case a20=>(simp only [List.getElem?_toArray,List.getElem?_cons_succ,List.getElem?_cons_zero];exact rfl)
 case b20|c20|d20=>kernel_rfl
 case e20=>exact fun _ _ _ h=>h
 case f20=>rfl
 case g20=>(intro w' hSw;obtain ⟨s0,s1,s2,s3⟩:=hSw;go_simp;(try with_reducible rfl))
 simp only [Act.put,List.setIfInBounds_toArray,List.set_cons_zero,List.set_cons_succ];refine' wpAnyH_take (i:=21) (oi:=_) (v:=_) ?a21 ?b21 ?c21 ?d21 ?e21 (Or.inl ⟨?f21,?g21⟩) hHeld ?h21
 case a21=>(simp only [List.getElem?_toArray,List.getElem?_cons_succ,List.getElem?_cons_zero];exact rfl)
 case b21|c21|d21=>kernel_rfl
 case e21=>exact fun _ _ _ h=>h
 case f21=>rfl
 case g21=>(intro w' hSw;obtain ⟨s0,s1,s2,s3⟩:=hSw;go_simp;(try with_reducible rfl))
 simp only [Act.put,List.setIfInBounds_toArray,List.set_cons_zero,List.set_cons_succ];refine' wpAnyH_take (i:=22) (oi:=_) (v:=_) ?a22 ?b22 ?c22 ?d22 ?e22 (Or.inl ⟨?f22,?g22⟩) hHeld ?h22
 case a22=>(simp only [List.getElem?_toArray,List.getElem?_cons_succ,List.getElem?_cons_zero];exact rfl)
 case b22|c22|d22=>kernel_rfl
 case e22=>exact fun _ _ _ h=>h
 case f22=>rfl
 case g22=>(intro w' hSw;obtain ⟨s0,s1,s2,s3⟩:=hSw;go_simp;(try with_reducible rfl))
 simp only [Act.put,List.setIfInBounds_toArray,List.set_cons_zero,List.set_cons_succ];refine' wpAnyH_take (i:=23) (oi:=_) (v:=_) ?a23 ?b23 ?c23 ?d23 ?e23 (Or.inl ⟨?f23,?g23⟩) hHeld ?h23
 case a23=>(simp only [List.getElem?_toArray,List.getElem?_cons_succ,List.getElem?_cons_zero];exact rfl)
 case b23|c23|d23=>kernel_rfl
 case e23=>exact fun _ _ _ h=>h
 case f23=>rfl
 case g23=>(intro w' hSw;obtain ⟨s0,s1,s2,s3⟩:=hSw;go_simp;(try with_reducible rfl))
 simp only [Act.put,List.setIfInBounds_toArray,List.set_cons_zero,List.set_cons_succ];refine' wpAnyH_take (i:=24) (oi:=_) (v:=_) ?a24 ?b24 ?c24 ?d24 ?e24 (Or.inl ⟨?f24,?g24⟩) hHeld ?h24
 case a24=>(simp only [List.getElem?_toArray,List.getElem?_cons_succ,List.getElem?_cons_zero];exact rfl)
 case b24|c24|d24=>kernel_rfl
 case e24=>exact fun _ _ _ h=>h
 case f24=>rfl
 case g24=>(intro w' hSw;obtain ⟨s0,s1,s2,s3⟩:=hSw;go_simp;(try with_reducible rfl))
 simp only [Act.put,List.setIfInBounds_toArray,List.set_cons_zero,List.set_cons_succ];refine' wpAnyH_take (i:=25) (oi:=_) (v:=_) ?a25 ?b25 ?c25 ?d25 ?e25 (Or.inl ⟨?f25,?g25⟩) hHeld ?h25
 case a25=>(simp only [List.getElem?_toArray,List.getElem?_cons_succ,List.getElem?_cons_zero];exact rfl)
 case b25|c25|d25=>kernel_rfl
 case e25=>exact fun _ _ _ h=>h
 case f25=>rfl
 case g25=>(intro w' hSw;obtain ⟨s0,s1,s2,s3⟩:=hSw;go_simp;(try with_reducible rfl))
 simp only [Act.put,List.setIfInBounds_toArray,List.set_cons_zero,List.set_cons_succ];refine' wpAnyH_take (i:=26) (oi:=_) (v:=_) ?a26 ?b26 ?c26 ?d26 ?e26 (Or.inl ⟨?f26,?g26⟩) hHeld ?h26
 case a26=>(simp only [List.getElem?_toArray,List.getElem?_cons_succ,List.getElem?_cons_zero];exact rfl)
 case b26|c26|d26=>kernel_rfl
 case e26=>exact fun _ _ _ h=>h
 case f26=>rfl
 case g26=>(intro w' hSw;obtain ⟨s0,s1,s2,s3⟩:=hSw;go_simp;(try with_reducible rfl))
 simp only [Act.put,List.setIfInBounds_toArray,List.set_cons_zero,List.set_cons_succ];refine' wpAnyH_take (i:=27) (oi:=_) (v:=_) ?a27 ?b27 ?c27 ?d27 ?e27 (Or.inl ⟨?f27,?g27⟩) hHeld ?h27
 case a27=>(simp only [List.getElem?_toArray,List.getElem?_cons_succ,List.getElem?_cons_zero];exact rfl)
 case b27|c27|d27=>kernel_rfl
 case e27=>exact fun _ _ _ h=>h
 case f27=>rfl
 case g27=>(intro w' hSw;obtain ⟨s0,s1,s2,s3⟩:=hSw;go_simp;(try with_reducible rfl))
 simp only [Act.put,List.setIfInBounds_toArray,List.set_cons_zero,List.set_cons_succ];refine' wpAnyH_take (i:=28) (oi:=_) (v:=_) ?a28 ?b28 ?c28 ?d28 ?e28 (Or.inl ⟨?f28,?g28⟩) hHeld ?h28
 case a28=>(simp only [List.getElem?_toArray,List.getElem?_cons_succ,List.getElem?_cons_zero];exact rfl)
 case b28|c28|d28=>kernel_rfl
 case e28=>exact fun _ _ _ h=>h
 case f28=>rfl
 case g28=>(intro w' hSw;obtain ⟨s0,s1,s2,s3⟩:=hSw;go_simp;(try with_reducible rfl))
 simp only [Act.put,List.setIfInBounds_toArray,List.set_cons_zero,List.set_cons_succ];refine' wpAnyH_take (i:=29) (oi:=_) (v:=_) ?a29 ?b29 ?c29 ?d29 ?e29 (Or.inl ⟨?f29,?g29⟩) hHeld ?h29
 case a29=>(simp only [List.getElem?_toArray,List.getElem?_cons_succ,List.getElem?_cons_zero];exact rfl)
 case b29|c29|d29=>kernel_rfl
 case e29=>exact fun _ _ _ h=>h
 case f29=>rfl
 case g29=>(intro w' hSw;obtain ⟨s0,s1,s2,s3⟩:=hSw;go_simp;(try with_reducible rfl))
 simp only [Act.put,List.setIfInBounds_toArray,List.set_cons_zero,List.set_cons_succ];refine wpAnyH_ready (rs:=[4,30]) (by kernel_rfl) (by simp) ?_
 refine' AllReadyH.cons (o:=_) ?p4A (fun K hK=>?q4A) ?r4A
 case p4A=>(simp only [List.getElem?_toArray,List.getElem?_cons_succ,List.getElem?_cons_zero];exact rfl)
 go_simp;refine hK.out _ _ ?_ (fun hHeld=>?_)
 ·exact hHeld
 clear hK K
 (try simp only [Act.put,List.setIfInBounds_toArray,List.set_cons_zero,List.set_cons_succ])
 refine wpAnyH_ready (rs:=[30]) (by kernel_rfl) (by simp) ?_
 refine' AllReadyH.cons (o:=_) ?p30A (fun K hK=>?q30A) ?r30A
 case p30A=>(simp only [List.getElem?_toArray,List.getElem?_cons_succ,List.getElem?_cons_zero];exact rfl)
 case r30A=>exact AllReadyH.nil
 go_simp;refine hK.out _ _ ?_ (fun hHeld=>?_)
 ·(first|exact hHeld|go_keep|(refine ⟨?_,?_,?_,?_⟩<;>go_keep))
 clear hK K
 (try simp only [Act.put,List.setIfInBounds_toArray,List.set_cons_zero,List.set_cons_succ])
 refine wpAnyH_ready (rs:=[31]) (by kernel_rfl) (by simp) ?_
 refine' AllReadyH.cons (o:=_) ?p31A (fun K hK=>?q31A) ?r31A
 case p31A=>(simp only [List.getElem?_toArray,List.getElem?_cons_succ,List.getElem?_cons_zero];exact rfl)
 case r31A=>exact AllReadyH.nil
 refine step_append_lies _ (by rfl) (.tmp 10) (.tmp 36) _ (by rfl) (M+1) 76 i0 _ 4 40 Tryz.underlying61 hi.out hz0.out hz1.out hz2.out rfl (by decide) toks n xs (by rfl) ((hO.out.alloc _).drew) ⟨w.heap.size,0,none⟩ 1 1 (tokC kind (text.extract pos (pos+size)) line col) (by rfl) (by rfl) (World.news_of_block (heap_alloc_new w _)) (oc _ rfl) (by decide) (by unfold maxLen;omega) (by omega) (by simp;omega) (w.heap.size+1) (by simp) ?_
 intro g cap w1 hown1 hgrow hat hg;have hfz1:w1.frozen? ⟨M,5,none⟩=false:=(hgrow.frozen_far (a:=⟨M,5,none⟩) (by simp;omega) (by intro e;exact hne.out e.symm)).trans ((Below.frozen ((Below.refl w.heap.size w).alloc (Nat.le_refl _) _).drew (p:=⟨M,5,none⟩) hlt).trans hfz)
 have q51:w1.cell? ⟨M,5,none⟩=some toks:=(hgrow.cell_far (a:=⟨M,5,none⟩) (by simp;omega) (by intro e;exact hne.out e.symm)).trans ((Below.cell ((Below.refl w.heap.size w).alloc (Nat.le_refl _) _).drew (p:=⟨M,5,none⟩) hlt).trans q5)
 refine hK.out _ _ ?_ (fun hHeld=>?_)
 ·refine ⟨?_,?_,?_,?_⟩<;>(rw [hgrow.cell_far _ (by simp;omega) (by intro e;exact hne.out e.symm)];go_keep)
 clear hK K
 (try simp only [Act.put,List.setIfInBounds_toArray,List.set_cons_zero,List.set_cons_succ])
 refine' wpAnyH_take (i:=32) (oi:=_) (v:=_) ?a32A ?b32A ?c32A ?d32A ?e32A (Or.inl ⟨?f32A,?g32A⟩) hHeld ?h32A
 case a32A=>(simp only [List.getElem?_toArray,List.getElem?_cons_succ,List.getElem?_cons_zero];exact rfl)
 case b32A=>kernel_rfl
 case c32A=>kernel_rfl
 case d32A=>kernel_rfl
 case e32A=>exact fun _ _ _ h=>h
 case f32A=>rfl
 case g32A=>(intro w' hSw;obtain ⟨s0,s1,s2,s3⟩:=hSw;go_simp;(try with_reducible rfl))
 simp only [Act.put,List.setIfInBounds_toArray,List.set_cons_zero,List.set_cons_succ];refine' wpAnyH_take (i:=33) (oi:=_) (v:=_) ?a33A ?b33A ?c33A ?d33A ?e33A (Or.inl ⟨?f33A,?g33A⟩) hHeld ?h33A
 case a33A=>(simp only [List.getElem?_toArray,List.getElem?_cons_succ,List.getElem?_cons_zero];exact rfl)
 case b33A=>kernel_rfl
 case c33A=>kernel_rfl
 case d33A=>kernel_rfl
 case e33A=>exact fun _ _ _ h=>h
 case f33A=>rfl
 case g33A=>(intro w' hSw;obtain ⟨s0,s1,s2,s3⟩:=hSw;go_simp;(try with_reducible rfl))
 simp only [Act.put,List.setIfInBounds_toArray,List.set_cons_zero,List.set_cons_succ];refine wpAnyH_ready (rs:=[34]) (by kernel_rfl) (by simp) ?_
 refine' AllReadyH.cons (o:=_) ?p34A (fun K hK=>?q34A) ?r34A
 case p34A=>(simp only [List.getElem?_toArray,List.getElem?_cons_succ,List.getElem?_cons_zero];exact rfl)
 case r34A=>exact AllReadyH.nil
 go_simp;refine hK.out _ _ ?_ (fun hHeld=>?_)
 ·obtain ⟨k0,k1,k2,k3⟩:=hHeld;exact ⟨set_far k0 (by decide),set_far k1 (by decide),set_far k2 (by decide),set_far k3 (by decide)⟩
 clear hK K
 (try simp only [Act.put,List.setIfInBounds_toArray,List.set_cons_zero,List.set_cons_succ])
 refine wpAnyH_done (by kernel_rfl) ?_ _
 have hM1:MachAt w1 M { text:=text,pos:=pos,line:=line,col:=col,opn:=opn,toks:=toks }:=MachAt.of_block hM.out ((hgrow.block M (by simp;omega) (fun e=>hne.out e.symm)).trans (((Below.refl w.heap.size w).alloc (Nat.le_refl _) _).drew.block M hlt))
 have hM2:=hM1.set (m':={ text:=text,pos:=pos,line:=line,col:=col,opn:=opn,toks:=Value.slice (some { block:=g,off:=0 }) (n+1) cap }) 5 (Value.slice (some { block:=g,off:=0 }) (n+1) cap) rfl;have hO2:=ownsRow_setCell_below hown1 (a:=⟨M,5,none⟩) (by show M<M+1;omega) (Value.slice (some { block:=g,off:=0 }) (n+1) cap)
 have hB2:Below M w (w1.setCell ⟨M,5,none⟩ (Value.slice (some { block:=g,off:=0 }) (n+1) cap)):=Below.setCell ((((Below.refl M w).alloc (Nat.le_of_lt hlt) _).drew).grown hgrow (show M≤(w.heap.push _).size by simp only [Array.size_push];omega) (fun k hk=>Nat.le_of_succ_le (hO.out.lt k hk).1)) (Nat.le_refl M) _
 clear hfz1 q51 hHeld q0 q1 q2 q3 q5 hfz hM1 hown1;generalize w1.setCell ⟨M,5,none⟩ (Value.slice (some { block:=g,off:=0 }) (n+1) cap)=W at *;have q4:=hM2.c4;have f4:=hM2.free 4;dsimp only at q4;have hM2:=Hi hM2;have hO2:=Hi hO2;have hB2:=Hi hB2;go_wp2_with fail;have hM3:=hM2.out.set (m':={ text:=text,pos:=pos,line:=line,col:=col,opn:=true,toks:=Value.slice (some { block:=g,off:=0 }) (n+1) cap }) 4 (.bool true) rfl;refine (forward_any M _ size _ hM3 hsz ht hc0 hc1).mono ?_;rintro e w3 ⟨rfl,hM4,hg4⟩;go_wp2_with fail;go_end0;refine ⟨rfl,_,hM4,?_,?_⟩
 ·have hO3:=ownsRow_setCell_below hO2.out (a:=⟨M,4,none⟩) (by show M<M+1;omega) (Value.bool true)
  refine own_heap hO3 (fun k hk=>hg4.block k (hO3.lt k hk).2 (fun e=>?_))
  have h1:=(hO3.lt k hk).1
  injection e with e
  omega
 ·exact (hB2.out.setCell (p:=⟨M,4,none⟩) (Nat.le_refl M) _).grown hg4 (by have:=hM3.lt;omega) (fun k hk=>by injection hk with hk;omega)
 refine' AllReadyH.cons (o:=_) ?p30C (fun K hK=>?q30C) ?r30C
 case p30C=>(simp only [List.getElem?_toArray,List.getElem?_cons_succ,List.getElem?_cons_zero];exact rfl)
 case r30C=>exact AllReadyH.nil
 go_simp;refine hK.out _ _ ?_ (fun hHeld=>?_)
 ·go_keep
 clear hK K
 (try simp only [Act.put,List.setIfInBounds_toArray,List.set_cons_zero,List.set_cons_succ])
 refine wpAnyH_ready (rs:=[4]) (by kernel_rfl) (by simp) ?_
 refine' AllReadyH.cons (o:=_) ?p4D (fun K hK=>?q4D) ?r4D
 case p4D=>(simp only [List.getElem?_toArray,List.getElem?_cons_succ,List.getElem?_cons_zero];exact rfl)
 case r4D=>exact AllReadyH.nil
 go_simp;refine hK.out _ _ ?_ (fun hHeld=>?_)
 ·exact hHeld
 clear hK K
 (try simp only [Act.put,List.setIfInBounds_toArray,List.set_cons_zero,List.set_cons_succ])
 refine wpAnyH_ready (rs:=[31]) (by kernel_rfl) (by simp) ?_
 refine' AllReadyH.cons (o:=_) ?p31E (fun K hK=>?q31E) ?r31E
 case p31E=>(simp only [List.getElem?_toArray,List.getElem?_cons_succ,List.getElem?_cons_zero];exact rfl)
 case r31E=>exact AllReadyH.nil
 refine step_append_lies _ (by rfl) (.tmp 10) (.tmp 36) _ (by rfl) (M+1) 76 i0 _ 4 40 Tryz.underlying61 hi.out hz0.out hz1.out hz2.out rfl (by decide) toks n xs (by rfl) ((hO.out.alloc _).drew) ⟨w.heap.size,0,none⟩ 1 1 (tokC kind (text.extract pos (pos+size)) line col) (by rfl) (by rfl) (World.news_of_block (heap_alloc_new w _)) (oc _ rfl) (by decide) (by unfold maxLen;omega) (by omega) (by simp;omega) (w.heap.size+1) (by simp) ?_
 intro g cap w1 hown1 hgrow hat hg;have hfz1:w1.frozen? ⟨M,5,none⟩=false:=(hgrow.frozen_far (a:=⟨M,5,none⟩) (by simp;omega) (by intro e;exact hne.out e.symm)).trans ((Below.frozen ((Below.refl w.heap.size w).alloc (Nat.le_refl _) _).drew (p:=⟨M,5,none⟩) hlt).trans hfz)
 have q51:w1.cell? ⟨M,5,none⟩=some toks:=(hgrow.cell_far (a:=⟨M,5,none⟩) (by simp;omega) (by intro e;exact hne.out e.symm)).trans ((Below.cell ((Below.refl w.heap.size w).alloc (Nat.le_refl _) _).drew (p:=⟨M,5,none⟩) hlt).trans q5)
 refine hK.out _ _ ?_ (fun hHeld=>?_)
 ·refine ⟨?_,?_,?_,?_⟩<;>(rw [hgrow.cell_far _ (by simp;omega) (by intro e;exact hne.out e.symm)];go_keep)
 clear hK K
 (try simp only [Act.put,List.setIfInBounds_toArray,List.set_cons_zero,List.set_cons_succ])
 refine' wpAnyH_take (i:=32) (oi:=_) (v:=_) ?a32E ?b32E ?c32E ?d32E ?e32E (Or.inl ⟨?f32E,?g32E⟩) hHeld ?h32E
 case a32E=>(simp only [List.getElem?_toArray,List.getElem?_cons_succ,List.getElem?_cons_zero];exact rfl)
 case b32E=>kernel_rfl
 case c32E=>kernel_rfl
 case d32E=>kernel_rfl
 case e32E=>exact fun _ _ _ h=>h
 case f32E=>rfl
 case g32E=>(intro w' hSw;obtain ⟨s0,s1,s2,s3⟩:=hSw;go_simp;(try with_reducible rfl))
 simp only [Act.put,List.setIfInBounds_toArray,List.set_cons_zero,List.set_cons_succ];refine' wpAnyH_take (i:=33) (oi:=_) (v:=_) ?a33E ?b33E ?c33E ?d33E ?e33E (Or.inl ⟨?f33E,?g33E⟩) hHeld ?h33E
 case a33E=>(simp only [List.getElem?_toArray,List.getElem?_cons_succ,List.getElem?_cons_zero];exact rfl)
 case b33E=>kernel_rfl
 case c33E=>kernel_rfl
 case d33E=>kernel_rfl
 case e33E=>exact fun _ _ _ h=>h
 case f33E=>rfl
 case g33E=>(intro w' hSw;obtain ⟨s0,s1,s2,s3⟩:=hSw;go_simp;(try with_reducible rfl))
 simp only [Act.put,List.setIfInBounds_toArray,List.set_cons_zero,List.set_cons_succ];refine wpAnyH_ready (rs:=[34]) (by kernel_rfl) (by simp) ?_
 refine' AllReadyH.cons (o:=_) ?p34E (fun K hK=>?q34E) ?r34E
 case p34E=>(simp only [List.getElem?_toArray,List.getElem?_cons_succ,List.getElem?_cons_zero];exact rfl)
 case r34E=>exact AllReadyH.nil
 go_simp;refine hK.out _ _ ?_ (fun hHeld=>?_)
 ·obtain ⟨k0,k1,k2,k3⟩:=hHeld;exact ⟨set_far k0 (by decide),set_far k1 (by decide),set_far k2 (by decide),set_far k3 (by decide)⟩
 clear hK K
 (try simp only [Act.put,List.setIfInBounds_toArray,List.set_cons_zero,List.set_cons_succ])
 refine wpAnyH_done (by kernel_rfl) ?_ _
 have hM1:MachAt w1 M { text:=text,pos:=pos,line:=line,col:=col,opn:=opn,toks:=toks }:=MachAt.of_block hM.out ((hgrow.block M (by simp;omega) (fun e=>hne.out e.symm)).trans (((Below.refl w.heap.size w).alloc (Nat.le_refl _) _).drew.block M hlt))
 have hM2:=hM1.set (m':={ text:=text,pos:=pos,line:=line,col:=col,opn:=opn,toks:=Value.slice (some { block:=g,off:=0 }) (n+1) cap }) 5 (Value.slice (some { block:=g,off:=0 }) (n+1) cap) rfl;have hO2:=ownsRow_setCell_below hown1 (a:=⟨M,5,none⟩) (by show M<M+1;omega) (Value.slice (some { block:=g,off:=0 }) (n+1) cap)
 have hB2:Below M w (w1.setCell ⟨M,5,none⟩ (Value.slice (some { block:=g,off:=0 }) (n+1) cap)):=Below.setCell ((((Below.refl M w).alloc (Nat.le_of_lt hlt) _).drew).grown hgrow (show M≤(w.heap.push _).size by simp only [Array.size_push];omega) (fun k hk=>Nat.le_of_succ_le (hO.out.lt k hk).1)) (Nat.le_refl M) _
 clear hfz1 q51 hHeld q0 q1 q2 q3 q5 hfz hM1 hown1;generalize w1.setCell ⟨M,5,none⟩ (Value.slice (some { block:=g,off:=0 }) (n+1) cap)=W at *;have q4:=hM2.c4;have f4:=hM2.free 4;dsimp only at q4;have hM2:=Hi hM2;have hO2:=Hi hO2;have hB2:=Hi hB2;go_wp2_with fail;have hM3:=hM2.out.set (m':={ text:=text,pos:=pos,line:=line,col:=col,opn:=true,toks:=Value.slice (some { block:=g,off:=0 }) (n+1) cap }) 4 (.bool true) rfl;refine (forward_any M _ size _ hM3 hsz ht hc0 hc1).mono ?_;rintro e w3 ⟨rfl,hM4,hg4⟩;go_wp2_with fail;go_end0;refine ⟨rfl,_,hM4,?_,?_⟩
 ·have hO3:=ownsRow_setCell_below hO2.out (a:=⟨M,4,none⟩) (by show M<M+1;omega) (Value.bool true)
  refine own_heap hO3 (fun k hk=>hg4.block k (hO3.lt k hk).2 (fun e=>?_))
  have h1:=(hO3.lt k hk).1
  injection e with e
  omega
 ·exact (hB2.out.setCell (p:=⟨M,4,none⟩) (Nat.le_refl M) _).grown hg4 (by have:=hM3.lt;omega) (fun k hk=>by injection hk with hk;omega)
def signFrom (s:ByteArray):List ByteArray→Nat
 | []=>0
 | g::r=>if g.size≤s.size∧s.extract 0 g.size=g then g.size else signFrom s r
def pieceS (s:ByteArray):Int×Int×Int×Int:=
 if classL (bs s)=5 then nameP (bs s)
 else if classL (bs s)=6 then
  (match numS (s.extract 0 (numLen (bs s))) with|some _=>q4 4 (numLen (bs s)) 0 0|none=>q4 0 0 0 31)
 else if classL (bs s)=7 then
  (if patS (bs (s.extract 1 (1+wordLen (bs (s.extract 1 s.size))))) then q4 5 ((1:Nat)+wordLen (bs (s.extract 1 s.size)):Nat) 0 0 else q4 0 0 0 44)
 else if classL (bs s)=8 then
  (if (speakS s true (s.size+1) 1 []).2.2=0 then
   (if 256<(speakS s true (s.size+1) 1 []).1.length then q4 0 0 0 37 else q4 6 (speakS s true (s.size+1) 1 []).2.1 0 0)
  else q4 0 0 (speakS s true (s.size+1) 1 []).2.1 (speakS s true (s.size+1) 1 []).2.2)
 else if signFrom s signsB=0 then q4 0 0 0 30 else q4 7 (signFrom s signsB) 0 0
def PcPost (w:World)(q:Int×Int×Int×Int)(e:Ending)(w':World):Prop:=e=.returned (V4 q)∧Below w.heap.size w w'
theorem pc_of {w w':World}{q:Int×Int×Int×Int}{a b c d:Int}(h:q=(a,b,c,d))(hb:Below w.heap.size w w') :
 PcPost w q (.returned (.tuple #[.int .i64 a,.int .i64 b,.int .i64 c,.int .i64 d])) w':=⟨ret_V4 h,hb⟩
theorem sign_index (W:World)(k:Nat)(g:ByteArray)(h:signsB[k]?=some g):(Instr.index 159 (.agg signsA) (.int .i64 k)).run Tryz.prog W=.ok (.string g) W:=by
 have hk:k<16:=(List.getElem?_eq_some_iff.1 h).1;have hg:g=signsB.getD k ByteArray.empty:=by rw [List.getD_eq_getElem?_getD,h];rfl
 subst hg;clear h;have:k=0∨k=1∨k=2∨k=3∨k=4∨k=5∨k=6∨k=7∨k=8∨k=9∨k=10∨k=11∨k=12∨k=13∨k=14∨k=15:=by omega
 rcases this with rfl|rfl|rfl|rfl|rfl|rfl|rfl|rfl|rfl|rfl|rfl|rfl|rfl|rfl|rfl|rfl<;>(show _=_;kernel_rfl)
theorem sign_size (k:Nat)(g:ByteArray)(h:signsB[k]?=some g):1≤g.size∧g.size≤2:=by
 have hk:k<16:=(List.getElem?_eq_some_iff.1 h).1;have hg:g=signsB.getD k ByteArray.empty:=by rw [List.getD_eq_getElem?_getD,h];rfl
 subst hg;clear h;have:k=0∨k=1∨k=2∨k=3∨k=4∨k=5∨k=6∨k=7∨k=8∨k=9∨k=10∨k=11∨k=12∨k=13∨k=14∨k=15:=by omega
 rcases this with rfl|rfl|rfl|rfl|rfl|rfl|rfl|rfl|rfl|rfl|rfl|rfl|rfl|rfl|rfl|rfl<;>decide
theorem piece_any (s:ByteArray)(h1:1≤s.size)(hs:s.size<4294967281)(w:World)(E:Env w) :
 Calls Tryz.prog 61 #[.string s] w fun e w'=>PcPost w (pieceS s) e w':=by
 have c0:=Hi (classOf_any s 0 w (by omega) (by omega) (by omega))
 rw [show (bs s).drop (0:Int).toNat=bs s from rfl] at c0
 have HE:=Hi E;clear E
 by_cases k5:classL (bs s)=5
 ·have H:=Hi (show pieceS s=nameP (bs s) by unfold pieceS;rw [if_pos k5])
  have c1:=Hi (scan_name_any s w (by omega))
  rw [k5] at c0;rw [H.out];clear H k5;generalize nameP (bs s)=q at *;obtain ⟨a,b,c,d⟩:=q;go_enter Tryz.func61,Tryz.ntmps61;go_wp2_with fail;refine c0.out.mono ?_;rintro e w1 ⟨rfl,rfl⟩;go_wp2_with fail;refine c1.out.mono ?_;rintro e w1 ⟨rfl,rfl⟩;unfold V4;go_wp2_with fail
  ((try simp only [Exit.inBlock,Exit.then]);refine bodyPost_ret (results4 rfl _ _ _) rfl ?_)
  exact pc_of rfl (Below.refl _ _)
 by_cases k6:classL (bs s)=6
 ·have H:=Hi (show pieceS s=match numS (s.extract 0 (numLen (bs s))) with|some _=>q4 4 (numLen (bs s)) 0 0|none=>q4 0 0 0 31 by unfold pieceS;rw [if_neg k5,if_pos k6])
  have c1:=Hi (numberRun_any s w (by omega))
  have hle:numLen (bs s)≤s.size:=numLen_le (bs s);rw [k6] at c0;have hx:=size_extract_le s 0 (numLen (bs s));have c2:=Hi (fun w E=>number_any (s.extract 0 (numLen (bs s))) (by omega) w E)
  clear k5 k6 hx;generalize numLen (bs s)=n at *;generalize numS (s.extract 0 n)=o at *;go_enter Tryz.func61,Tryz.ntmps61;go_wp2_with fail;refine c0.out.mono ?_;rintro e w1 ⟨rfl,rfl⟩;go_wp2_with fail;refine c1.out.mono ?_;rintro e w1 ⟨rfl,rfl⟩;go_wp2_with fail;refine (c2.out _ HE.out).mono ?_;rintro e w2 ⟨rfl,hb⟩
  cases o with
  | some v=>
    unfold optT;dsimp only [Option.getD_some,Option.isSome_some];have H:=Hi (show pieceS s=q4 4 n 0 0 from H.out)
    go_wp2_with fail
    ((try simp only [Exit.inBlock,Exit.then]);refine bodyPost_ret (results4 rfl _ _ _) rfl ?_)
    exact pc_of H.out hb
  | none=>
    unfold optT;dsimp only [Option.getD_none,Option.isSome_none];have H:=Hi (show pieceS s=q4 0 0 0 31 from H.out)
    go_wp2_with fail
    ((try simp only [Exit.inBlock,Exit.then]);refine bodyPost_ret (results4 rfl _ _ _) rfl ?_)
    exact pc_of H.out hb
 by_cases k7:classL (bs s)=7
 ·have H:=Hi (show pieceS s=if patS (bs (s.extract 1 (1+wordLen (bs (s.extract 1 s.size))))) then q4 5 ((1:Nat)+wordLen (bs (s.extract 1 s.size)):Nat) 0 0 else q4 0 0 0 44 by
   unfold pieceS;rw [if_neg k5,if_neg k6,if_pos k7])
  have hx1:=size_extract_le s 1 s.size;have hx3:(s.extract 1 s.size).size=s.size-1:=by rw [ByteArray.size_extract];omega
  have c1:=Hi (wordRun_any (s.extract 1 s.size) w (by omega))
  have hle:wordLen (bs (s.extract 1 s.size))≤s.size-1:=by
   have:=wordLen_le (bs (s.extract 1 s.size));rw [bs_length] at this;omega
  rw [k7] at c0;clear k5 k6 k7 hx3;generalize wordLen (bs (s.extract 1 s.size))=n at *;have hx2:=size_extract_le s 1 (1+n);have c2:=Hi (fun w=>pattern_any (s.extract 1 (1+n)) (by omega) w)
  generalize patS (bs (s.extract 1 (1+n)))=b at *;clear hx1 hx2;go_enter Tryz.func61,Tryz.ntmps61;go_wp2_with fail;refine c0.out.mono ?_;rintro e w1 ⟨rfl,rfl⟩;go_wp2_with fail;refine c1.out.mono ?_;rintro e w1 ⟨rfl,rfl⟩;go_wp2_with fail;refine (c2.out _).mono ?_;rintro e w2 ⟨rfl,hb⟩
  cases b with
  | true=>
    have H:=Hi (show pieceS s=q4 5 ((1+n:Nat)) 0 0 from H.out)
    go_wp2_with fail
    ((try simp only [Exit.inBlock,Exit.then]);refine bodyPost_ret (results4 rfl _ _ _) rfl ?_)
    exact pc_of (by rw [H.out];simp) hb
  | false=>
    have H:=Hi (show pieceS s=q4 0 0 0 44 from H.out)
    go_wp2_with fail
    ((try simp only [Exit.inBlock,Exit.then]);refine bodyPost_ret (results4 rfl _ _ _) rfl ?_)
    exact pc_of H.out hb
 by_cases k8:classL (bs s)=8
 ·have H:=Hi (show pieceS s=if (speakS s true (s.size+1) 1 []).2.2=0 then
   (if 256<(speakS s true (s.size+1) 1 []).1.length then q4 0 0 0 37 else q4 6 (speakS s true (s.size+1) 1 []).2.1 0 0)
   else q4 0 0 (speakS s true (s.size+1) 1 []).2.1 (speakS s true (s.size+1) 1 []).2.2 by
   unfold pieceS;rw [if_neg k5,if_neg k6,if_neg k7,if_pos k8])
  have c1:=Hi (fun w E=>speak_any s true h1 hs w E)
  rw [k8] at c0;clear k5 k6 k7 k8;generalize speakS s true (s.size+1) 1 []=R at *;obtain ⟨sd,en,code⟩:=R;dsimp only at H;have hl0:(0:Int)≤(sd.length:Int):=by omega
  go_enter Tryz.func61,Tryz.ntmps61;go_wp2_with fail;refine c0.out.mono ?_;rintro e w1 ⟨rfl,rfl⟩;go_wp2_with fail;refine (c1.out _ HE.out).mono ?_;rintro e w2 ⟨sv,rfl,hown,hb⟩;dsimp only at hown
  by_cases hc:code=0
  ·have H2:=Hi (H.out.trans (if_pos hc));subst hc;clear H
   have hform:∃ A cap,sv=.slice A sd.length cap:=by
    rcases hown.2 with ⟨rfl,h0⟩|⟨g,cap,cur,rfl,_⟩
    ·exact ⟨none,0,by rw [h0]⟩
    ·exact ⟨_,cap,rfl⟩
   obtain ⟨A,cap,rfl⟩:=hform;have hown:=Hi hown
   by_cases h256:256<sd.length
   ·have H:=Hi (H2.out.trans (if_pos h256));go_wp2_with fail
    ((try simp only [Exit.inBlock,Exit.then]);refine bodyPost_ret (results4 rfl _ _ _) rfl ?_)
    exact pc_of H.out hb
   ·have H:=Hi (H2.out.trans (if_neg h256));go_wp2_with fail
    ((try simp only [Exit.inBlock,Exit.then]);refine bodyPost_ret (results4 rfl _ _ _) rfl ?_)
    exact pc_of H.out hb
  ·have H:=Hi (H.out.trans (if_neg hc));have hc':(code != 0)=true:=by rw [bne_iff_ne];exact hc
   have hown:=Hi hown;go_wp2_with fail
   ((try simp only [Exit.inBlock,Exit.then]);refine bodyPost_ret (results4 rfl _ _ _) rfl ?_)
   exact pc_of H.out hb
 have H:=Hi (show pieceS s=if signFrom s signsB=0 then q4 0 0 0 30 else q4 7 (signFrom s signsB) 0 0 by
  unfold pieceS;rw [if_neg k5,if_neg k6,if_neg k7,if_neg k8])
 have b5:(classL (bs s) == 5)=false:=beq_eq_false_iff_ne.2 k5;have b6:(classL (bs s) == 6)=false:=beq_eq_false_iff_ne.2 k6;have b7:(classL (bs s) == 7)=false:=beq_eq_false_iff_ne.2 k7;have b8:(classL (bs s) == 8)=false:=beq_eq_false_iff_ne.2 k8;clear k5 k6 k7 k8;generalize classL (bs s)=q at *;obtain ⟨tt,fr,hg⟩:=HE.out.signs;have hidx:=Hi sign_index;obtain ⟨SA,hSA⟩:∃ SA,SA=signsA:=⟨_,rfl⟩
 have hinfo:(Tryz.prog.info? 159).map (·.size)=some SA.size:=by rw [hSA];kernel_rfl
 rw [← hSA] at hg hidx;have hinfo:=Hi hinfo;have hg:=Hi hg;clear hSA;go_enter Tryz.func61,Tryz.ntmps61;go_wp2_with fail;refine c0.out.mono ?_;rintro e w1 ⟨rfl,rfl⟩;go_wp2_with (refine wpList_load_row rfl 159 _ rfl 2 rfl tt SA fr _ hg.out Tryz.underlying159 rfl hinfo.out ?_)
 go_loop [66] (fun i=>∃ k:Nat,k≤16∧i=.int .i64 k∧Hid (signFrom s signsB=signFrom s (signsB.drop k))) (fun i=>16-(intOf i).toNat)
 case atStart=>exact ⟨0,by omega,rfl,Hi rfl⟩
 case round=>
  obtain ⟨k,hk,rfl,hr⟩:=hrel
  by_cases hlt:k<16
  ·obtain ⟨g,hgk⟩:∃ g,signsB[k]?=some g:=⟨_,List.getElem?_eq_getElem (show k<signsB.length from hlt)⟩
   have hix:=fun W=>hidx.out W k g hgk
   obtain ⟨hg1,hg2⟩:=sign_size k g hgk;have hr2:=Hi (hr.out.trans (show signFrom s (signsB.drop k)=if g.size≤s.size∧s.extract 0 g.size=g then g.size else signFrom s (signsB.drop (k+1)) by rw [drop_at hgk];rfl))
   clear hr hgk
   by_cases hge:g.size≤s.size
   ·by_cases heq:s.extract 0 g.size=g
    ·have hr3:=Hi (hr2.out.trans (if_pos ⟨hge,heq⟩));have H2:=Hi (show pieceS s=q4 7 g.size 0 0 by rw [H.out,if_neg (by rw [hr3.out];omega),hr3.out])
     have be:((s.extract 0 g.size).toList == g.toList)=true:=by rw [heq];simp
     have heq:=Hi heq;clear H hr2;go_wp2_with fail
     ((try simp only [Exit.inBlock,Exit.then]);refine bodyPost_ret (results4 rfl _ _ _) rfl ?_)
     exact pc_of H2.out (Below.refl _ _)
    ·have hr3:=Hi (hr2.out.trans (if_neg (fun h=>heq h.2)))
     have be:((s.extract 0 g.size).toList == g.toList)=false:=by
      rw [beq_eq_false_iff_ne];intro h;apply heq;rw [ByteArray.toList_eq,ByteArray.toList_eq] at h;exact WideShapes.bytes_inj h
     clear H hr2 heq;go_wp2_with fail
     go_round
     case rel=>exact ⟨k+1,by omega,by go_num,hr3⟩
     case measure=>simp [intOf];omega
   ·have hr3:=Hi (hr2.out.trans (if_neg (fun h=>hge h.1)))
    clear H hr2;go_wp2_with fail
    go_round
    case rel=>exact ⟨k+1,by omega,by go_num,hr3⟩
    case measure=>simp [intOf];omega
  ·have H2:=Hi (show pieceS s=q4 0 0 0 30 by
    rw [H.out,if_pos];rw [hr.out,drop_end (show ¬ k<signsB.length from hlt)];rfl)
   clear H hr;go_wp2_with fail
   ((try simp only [Exit.inBlock,Exit.then]);refine bodyPost_ret (results4 rfl _ _ _) rfl ?_)
   exact pc_of H2.out (Below.refl _ _)
end Go.Proofs.YtjokciofeicdkaaGreatDoor
namespace Go.Proofs.YtjokciofeicdkaaGreatDoor
open Go.RowKit
attribute [local go_sem ↓] Go.wp_at_zero Go.wp_at_succ
theorem endLine_any (M:Nat)(m:Mach)(n:Nat)(xs:List Value)(w:World)(hm:MachAt w M m)(hown:w.ownsRow (M+1) 76 4 m.toks n xs)(hn:n≤8589934592)
 (hp:m.pos≤m.text.size) (ht:m.text.size≤4294967295) (hl0:0≤m.line) (hl1:m.line≤4611686018427387904) :
 Calls Tryz.prog 64 #[.pointer (some ⟨M,0,none⟩)] w fun e w'=>e=.returned (.tuple #[])∧∃ v,
  MachAt w' M { m with pos:=m.pos+1,line:=m.line+1,col:=1,opn:=false,toks:=v } ∧
  w'.ownsRow (M+1) 76 4 v (if m.opn then n+1 else n) (if m.opn then xs++tokC 1 ⟨#[10]⟩ m.line m.col else xs)∧Below M w w':=by
 obtain ⟨text,pos,line,col,opn,toks⟩:=m;dsimp only at *;have q1:=hm.c1;have q2:=hm.c2;have q3:=hm.c3;have q4:=hm.c4;have q5:=hm.c5;have hM:=Hi hm;have hO:=Hi hown;have hne:=Hi (own_ne_mach hown hm);have hfz:=hm.free 5;have hlt:=hm.lt;clear hm hown;dsimp only at q1 q2 q3 q4 q5;have bw:=wS pos (by omega)
 have bl:IntKind.i64.wrap (line+1)=line+1:=IntWalk.i64_in _ (by omega)
 obtain ⟨i0,hi,hz0,hz1,hz2⟩:=info_parts tok_info;have hi:=Hi hi;have hz0:=Hi hz0;have hz1:=Hi hz1;have hz2:=Hi hz2;have n5:=World.new_ne w ⟨M,5,none⟩ q5
 cases opn with
 | false=>
   have hO2:=hO;have hB2:=Hi (Below.refl M w);have hM2:=hM;go_enter Tryz.func64,Tryz.ntmps64;clear q1 q2 q3 q4 q5 hfz n5;have q1:=hM2.out.c1;have q2:=hM2.out.c2;have f4:=hM2.out.free 4;have q4:=hM2.out.c4;have f1:=hM2.out.free 1;have f2:=hM2.out.free 2;have f3:=hM2.out.free 3;have q3:=hM2.out.c3;dsimp only at q1 q2 q3 q4;go_wp2_with fail;go_end0;have hM3:=(((hM2.out.set (m':={ text:=text,pos:=pos,line:=line,col:=col,opn:=false,toks:=toks }) 4 (.bool false) rfl).set (m':={ text:=text,pos:=pos+1,line:=line,col:=col,opn:=false,toks:=toks }) 1 (.int .i64 ((pos:Int)+1)) rfl).set (m':={ text:=text,pos:=pos+1,line:=line+1,col:=col,opn:=false,toks:=toks }) 2 (.int .i64 (line+1)) rfl).set (m':={ text:=text,pos:=pos+1,line:=line+1,col:=1,opn:=false,toks:=toks }) 3 (.int .i64 1) rfl;refine ⟨rfl,_,hM3,?_,?_⟩
   ·exact ownsRow_setCell_below (ownsRow_setCell_below (ownsRow_setCell_below (ownsRow_setCell_below hO2.out (a:=⟨M,4,none⟩) (by show M<M+1;omega) _) (a:=⟨M,1,none⟩) (by show M<M+1;omega) _) (a:=⟨M,2,none⟩) (by show M<M+1;omega) _) (a:=⟨M,3,none⟩) (by show M<M+1;omega) _
   ·exact (((hB2.out.setCell (p:=⟨M,4,none⟩) (Nat.le_refl M) _).setCell (p:=⟨M,1,none⟩) (Nat.le_refl M) _).setCell (p:=⟨M,2,none⟩) (Nat.le_refl M) _).setCell (p:=⟨M,3,none⟩) (Nat.le_refl M) _
 | true=>
   go_enter Tryz.func64,Tryz.ntmps64;go_wp2_with fail;refine wp_region_held_drew (S:=(fun w'=>w'.cell? ⟨M,2,none⟩=some (.int .i64 line)∧w'.cell? ⟨M,3,none⟩=some (.int .i64 col))) (by kernel_rfl) ⟨q2,q3⟩ (fun hHeld=>?_)
   refine' wpAnyH_take (i:=0) (oi:=_) (v:=_) ?a0 ?b0 ?c0 ?d0 ?e0 (Or.inl ⟨?f0,?g0⟩) hHeld ?h0
   case a0=>(simp only [List.getElem?_toArray,List.getElem?_cons_zero];exact rfl)
   case b0|c0|d0=>kernel_rfl
   case e0=>exact fun _ _ _ h=>h
   case f0=>rfl
   case g0=>(intro w' hSw;obtain ⟨s2,s3⟩:=hSw;go_simp;(try with_reducible rfl))
   simp only [Act.put,List.setIfInBounds_toArray,List.set_cons_zero,List.set_cons_succ];refine' wpAnyH_take (i:=1) (oi:=_) (v:=_) ?a1 ?b1 ?c1 ?d1 ?e1 (Or.inl ⟨?f1,?g1⟩) hHeld ?h1
   case a1=>(simp only [List.getElem?_toArray,List.getElem?_cons_succ,List.getElem?_cons_zero];exact rfl)
   case b1|c1|d1=>kernel_rfl
   case e1=>exact fun _ _ _ h=>h
   case f1=>rfl
   case g1=>(intro w' hSw;obtain ⟨s2,s3⟩:=hSw;go_simp;(try with_reducible rfl))
   simp only [Act.put,List.setIfInBounds_toArray,List.set_cons_zero,List.set_cons_succ];refine' wpAnyH_take (i:=2) (oi:=_) (v:=_) ?a2 ?b2 ?c2 ?d2 ?e2 (Or.inl ⟨?f2,?g2⟩) hHeld ?h2
   case a2=>(simp only [List.getElem?_toArray,List.getElem?_cons_succ,List.getElem?_cons_zero];exact rfl)
   case b2|c2|d2=>kernel_rfl
   case e2=>exact fun _ _ _ h=>h
   case f2=>rfl
   case g2=>(intro w' hSw;obtain ⟨s2,s3⟩:=hSw;go_simp;(try with_reducible rfl))
   simp only [Act.put,List.setIfInBounds_toArray,List.set_cons_zero,List.set_cons_succ];refine' wpAnyH_take (i:=3) (oi:=_) (v:=_) ?a3 ?b3 ?c3 ?d3 ?e3 (Or.inl ⟨?f3,?g3⟩) hHeld ?h3
   case a3=>(simp only [List.getElem?_toArray,List.getElem?_cons_succ,List.getElem?_cons_zero];exact rfl)
   case b3|c3|d3=>kernel_rfl
   case e3=>exact fun _ _ _ h=>h
   case f3=>rfl
   case g3=>(intro w' hSw;obtain ⟨s2,s3⟩:=hSw;go_simp;(try with_reducible rfl))
   simp only [Act.put,List.setIfInBounds_toArray,List.set_cons_zero,List.set_cons_succ];refine' wpAnyH_take (i:=5) (oi:=_) (v:=_) ?a5 ?b5 ?c5 ?d5 ?e5 (Or.inl ⟨?f5,?g5⟩) hHeld ?h5
   case a5=>(simp only [List.getElem?_toArray,List.getElem?_cons_succ,List.getElem?_cons_zero];exact rfl)
   case b5|c5|d5=>kernel_rfl
   case e5=>exact fun _ _ _ h=>h
   case f5=>rfl
   case g5=>(intro w' hSw;obtain ⟨s2,s3⟩:=hSw;go_simp;(try with_reducible rfl))
   simp only [Act.put,List.setIfInBounds_toArray,List.set_cons_zero,List.set_cons_succ];refine' wpAnyH_take (i:=6) (oi:=_) (v:=_) ?a6 ?b6 ?c6 ?d6 ?e6 (Or.inl ⟨?f6,?g6⟩) hHeld ?h6
   case a6=>(simp only [List.getElem?_toArray,List.getElem?_cons_succ,List.getElem?_cons_zero];exact rfl)
   case b6|c6|d6=>kernel_rfl
   case e6=>exact fun _ _ _ h=>h
   case f6=>rfl
   case g6=>(intro w' hSw;obtain ⟨s2,s3⟩:=hSw;go_simp;(try with_reducible rfl))
   simp only [Act.put,List.setIfInBounds_toArray,List.set_cons_zero,List.set_cons_succ];refine' wpAnyH_take (i:=7) (oi:=_) (v:=_) ?a7 ?b7 ?c7 ?d7 ?e7 (Or.inl ⟨?f7,?g7⟩) hHeld ?h7
   case a7=>(simp only [List.getElem?_toArray,List.getElem?_cons_succ,List.getElem?_cons_zero];exact rfl)
   case b7|c7|d7=>kernel_rfl
   case e7=>exact fun _ _ _ h=>h
   case f7=>rfl
   case g7=>(intro w' hSw;obtain ⟨s2,s3⟩:=hSw;go_simp;(try with_reducible rfl))
   simp only [Act.put,List.setIfInBounds_toArray,List.set_cons_zero,List.set_cons_succ];refine' wpAnyH_take (i:=8) (oi:=_) (v:=_) ?a8 ?b8 ?c8 ?d8 ?e8 (Or.inl ⟨?f8,?g8⟩) hHeld ?h8
   case a8=>(simp only [List.getElem?_toArray,List.getElem?_cons_succ,List.getElem?_cons_zero];exact rfl)
   case b8|c8|d8=>kernel_rfl
   case e8=>exact fun _ _ _ h=>h
   case f8=>rfl
   case g8=>(intro w' hSw;obtain ⟨s2,s3⟩:=hSw;go_simp;(try with_reducible rfl))
   simp only [Act.put,List.setIfInBounds_toArray,List.set_cons_zero,List.set_cons_succ];refine' wpAnyH_take (i:=9) (oi:=_) (v:=_) ?a9 ?b9 ?c9 ?d9 ?e9 (Or.inl ⟨?f9,?g9⟩) hHeld ?h9
   case a9=>(simp only [List.getElem?_toArray,List.getElem?_cons_succ,List.getElem?_cons_zero];exact rfl)
   case b9|c9|d9=>kernel_rfl
   case e9=>exact fun _ _ _ h=>h
   case f9=>rfl
   case g9=>(intro w' hSw;obtain ⟨s2,s3⟩:=hSw;go_simp;(try with_reducible rfl))
   simp only [Act.put,List.setIfInBounds_toArray,List.set_cons_zero,List.set_cons_succ];refine' wpAnyH_take (i:=10) (oi:=_) (v:=_) ?a10 ?b10 ?c10 ?d10 ?e10 (Or.inl ⟨?f10,?g10⟩) hHeld ?h10
   case a10=>(simp only [List.getElem?_toArray,List.getElem?_cons_succ,List.getElem?_cons_zero];exact rfl)
   case b10|c10|d10=>kernel_rfl
   case e10=>exact fun _ _ _ h=>h
   case f10=>rfl
   case g10=>(intro w' hSw;obtain ⟨s2,s3⟩:=hSw;go_simp;(try with_reducible rfl))
   simp only [Act.put,List.setIfInBounds_toArray,List.set_cons_zero,List.set_cons_succ];refine' wpAnyH_take (i:=11) (oi:=_) (v:=_) ?a11 ?b11 ?c11 ?d11 ?e11 (Or.inl ⟨?f11,?g11⟩) hHeld ?h11
   case a11=>(simp only [List.getElem?_toArray,List.getElem?_cons_succ,List.getElem?_cons_zero];exact rfl)
   case b11|c11|d11=>kernel_rfl
   case e11=>exact fun _ _ _ h=>h
   case f11=>rfl
   case g11=>(intro w' hSw;obtain ⟨s2,s3⟩:=hSw;go_simp;(try with_reducible rfl))
   simp only [Act.put,List.setIfInBounds_toArray,List.set_cons_zero,List.set_cons_succ];refine' wpAnyH_take (i:=12) (oi:=_) (v:=_) ?a12 ?b12 ?c12 ?d12 ?e12 (Or.inl ⟨?f12,?g12⟩) hHeld ?h12
   case a12=>(simp only [List.getElem?_toArray,List.getElem?_cons_succ,List.getElem?_cons_zero];exact rfl)
   case b12|c12|d12=>kernel_rfl
   case e12=>exact fun _ _ _ h=>h
   case f12=>rfl
   case g12=>(intro w' hSw;obtain ⟨s2,s3⟩:=hSw;go_simp;(try with_reducible rfl))
   simp only [Act.put,List.setIfInBounds_toArray,List.set_cons_zero,List.set_cons_succ];refine' wpAnyH_take (i:=13) (oi:=_) (v:=_) ?a13 ?b13 ?c13 ?d13 ?e13 (Or.inl ⟨?f13,?g13⟩) hHeld ?h13
   case a13=>(simp only [List.getElem?_toArray,List.getElem?_cons_succ,List.getElem?_cons_zero];exact rfl)
   case b13|c13|d13=>kernel_rfl
   case e13=>exact fun _ _ _ h=>h
   case f13=>rfl
   case g13=>(intro w' hSw;obtain ⟨s2,s3⟩:=hSw;go_simp;(try with_reducible rfl))
   simp only [Act.put,List.setIfInBounds_toArray,List.set_cons_zero,List.set_cons_succ];refine wpAnyH_ready (rs:=[4,14]) (by kernel_rfl) (by simp) ?_
   refine' AllReadyH.cons (o:=_) ?p4A (fun K hK=>?q4A) ?r4A
   case p4A=>(simp only [List.getElem?_toArray,List.getElem?_cons_succ,List.getElem?_cons_zero];exact rfl)
   go_simp;refine hK.out _ _ ?_ (fun hHeld=>?_)
   ·exact hHeld
   clear hK K
   (try simp only [Act.put,List.setIfInBounds_toArray,List.set_cons_zero,List.set_cons_succ])
   refine wpAnyH_ready (rs:=[14]) (by kernel_rfl) (by simp) ?_
   refine' AllReadyH.cons (o:=_) ?p14A (fun K hK=>?q14A) ?r14A
   case p14A=>(simp only [List.getElem?_toArray,List.getElem?_cons_succ,List.getElem?_cons_zero];exact rfl)
   case r14A=>exact AllReadyH.nil
   go_simp;refine hK.out _ _ ?_ (fun hHeld=>?_)
   ·(first|exact hHeld|go_keep|(refine ⟨?_,?_⟩<;>go_keep))
   clear hK K
   (try simp only [Act.put,List.setIfInBounds_toArray,List.set_cons_zero,List.set_cons_succ])
   refine wpAnyH_ready (rs:=[15]) (by kernel_rfl) (by simp) ?_
   refine' AllReadyH.cons (o:=_) ?p15A (fun K hK=>?q15A) ?r15A
   case p15A=>(simp only [List.getElem?_toArray,List.getElem?_cons_succ,List.getElem?_cons_zero];exact rfl)
   case r15A=>exact AllReadyH.nil
   refine step_append_lies _ (by rfl) (.tmp 10) (.tmp 20) _ (by rfl) (M+1) 76 i0 _ 4 40 Tryz.underlying61 hi.out hz0.out hz1.out hz2.out rfl (by decide) toks n xs (by rfl) ((hO.out.alloc _).drew) ⟨w.heap.size,0,none⟩ 1 1 (tokC 1 ⟨#[10]⟩ line col) (by rfl) (by rfl) (World.news_of_block (heap_alloc_new w _)) (oc _ rfl) (by decide) (by unfold maxLen;omega) (by omega) (by simp;omega) (w.heap.size+1) (by simp) ?_
   intro g cap w1 hown1 hgrow hat hg;have hfz1:w1.frozen? ⟨M,5,none⟩=false:=(hgrow.frozen_far (a:=⟨M,5,none⟩) (by simp;omega) (by intro e;exact hne.out e.symm)).trans ((Below.frozen ((Below.refl w.heap.size w).alloc (Nat.le_refl _) _).drew (p:=⟨M,5,none⟩) hlt).trans hfz)
   have q51:w1.cell? ⟨M,5,none⟩=some toks:=(hgrow.cell_far (a:=⟨M,5,none⟩) (by simp;omega) (by intro e;exact hne.out e.symm)).trans ((Below.cell ((Below.refl w.heap.size w).alloc (Nat.le_refl _) _).drew (p:=⟨M,5,none⟩) hlt).trans q5)
   refine hK.out _ _ ?_ (fun hHeld=>?_)
   ·refine ⟨?_,?_⟩<;>(rw [hgrow.cell_far _ (by simp;omega) (by intro e;exact hne.out e.symm)];go_keep)
   clear hK K
   (try simp only [Act.put,List.setIfInBounds_toArray,List.set_cons_zero,List.set_cons_succ])
   refine' wpAnyH_take (i:=16) (oi:=_) (v:=_) ?a16A ?b16A ?c16A ?d16A ?e16A (Or.inl ⟨?f16A,?g16A⟩) hHeld ?h16A
   case a16A=>(simp only [List.getElem?_toArray,List.getElem?_cons_succ,List.getElem?_cons_zero];exact rfl)
   case b16A=>kernel_rfl
   case c16A=>kernel_rfl
   case d16A=>kernel_rfl
   case e16A=>exact fun _ _ _ h=>h
   case f16A=>rfl
   case g16A=>(intro w' hSw;obtain ⟨s2,s3⟩:=hSw;go_simp;(try with_reducible rfl))
   simp only [Act.put,List.setIfInBounds_toArray,List.set_cons_zero,List.set_cons_succ];refine' wpAnyH_take (i:=17) (oi:=_) (v:=_) ?a17A ?b17A ?c17A ?d17A ?e17A (Or.inl ⟨?f17A,?g17A⟩) hHeld ?h17A
   case a17A=>(simp only [List.getElem?_toArray,List.getElem?_cons_succ,List.getElem?_cons_zero];exact rfl)
   case b17A=>kernel_rfl
   case c17A=>kernel_rfl
   case d17A=>kernel_rfl
   case e17A=>exact fun _ _ _ h=>h
   case f17A=>rfl
   case g17A=>(intro w' hSw;obtain ⟨s2,s3⟩:=hSw;go_simp;(try with_reducible rfl))
   simp only [Act.put,List.setIfInBounds_toArray,List.set_cons_zero,List.set_cons_succ];refine wpAnyH_ready (rs:=[18]) (by kernel_rfl) (by simp) ?_
   refine' AllReadyH.cons (o:=_) ?p18A (fun K hK=>?q18A) ?r18A
   case p18A=>(simp only [List.getElem?_toArray,List.getElem?_cons_succ,List.getElem?_cons_zero];exact rfl)
   case r18A=>exact AllReadyH.nil
   go_simp;refine hK.out _ _ ?_ (fun hHeld=>?_)
   ·obtain ⟨k2,k3⟩:=hHeld;exact ⟨set_far k2 (by decide),set_far k3 (by decide)⟩
   clear hK K
   (try simp only [Act.put,List.setIfInBounds_toArray,List.set_cons_zero,List.set_cons_succ])
   refine wpAnyH_done (by kernel_rfl) ?_ _
   have hM1:MachAt w1 M { text:=text,pos:=pos,line:=line,col:=col,opn:=true,toks:=toks }:=MachAt.of_block hM.out ((hgrow.block M (by simp;omega) (fun e=>hne.out e.symm)).trans (((Below.refl w.heap.size w).alloc (Nat.le_refl _) _).drew.block M hlt))
   have hM2:=hM1.set (m':={ text:=text,pos:=pos,line:=line,col:=col,opn:=true,toks:=Value.slice (some { block:=g,off:=0 }) (n+1) cap }) 5 (Value.slice (some { block:=g,off:=0 }) (n+1) cap) rfl;have hO2:=ownsRow_setCell_below hown1 (a:=⟨M,5,none⟩) (by show M<M+1;omega) (Value.slice (some { block:=g,off:=0 }) (n+1) cap)
   have hB2:Below M w (w1.setCell ⟨M,5,none⟩ (Value.slice (some { block:=g,off:=0 }) (n+1) cap)):=Below.setCell ((((Below.refl M w).alloc (Nat.le_of_lt hlt) _).drew).grown hgrow (show M≤(w.heap.push _).size by simp only [Array.size_push];omega) (fun k hk=>Nat.le_of_succ_le (hO.out.lt k hk).1)) (Nat.le_refl M) _
   clear hfz1 q51 hHeld hM1 hown1;generalize w1.setCell ⟨M,5,none⟩ (Value.slice (some { block:=g,off:=0 }) (n+1) cap)=W at *;have hM2:=Hi hM2;have hO2:=Hi hO2;have hB2:=Hi hB2;clear q1 q2 q3 q4 q5 hfz n5;have q1:=hM2.out.c1;have q2:=hM2.out.c2;have f4:=hM2.out.free 4;have q4:=hM2.out.c4;have f1:=hM2.out.free 1;have f2:=hM2.out.free 2;have f3:=hM2.out.free 3;have q3:=hM2.out.c3;dsimp only at q1 q2 q3 q4;go_wp2_with fail;go_end0;have hM3:=(((hM2.out.set (m':={ text:=text,pos:=pos,line:=line,col:=col,opn:=false,toks:=Value.slice (some { block:=g,off:=0 }) (n+1) cap }) 4 (.bool false) rfl).set (m':={ text:=text,pos:=pos+1,line:=line,col:=col,opn:=false,toks:=Value.slice (some { block:=g,off:=0 }) (n+1) cap }) 1 (.int .i64 ((pos:Int)+1)) rfl).set (m':={ text:=text,pos:=pos+1,line:=line+1,col:=col,opn:=false,toks:=Value.slice (some { block:=g,off:=0 }) (n+1) cap }) 2 (.int .i64 (line+1)) rfl).set (m':={ text:=text,pos:=pos+1,line:=line+1,col:=1,opn:=false,toks:=Value.slice (some { block:=g,off:=0 }) (n+1) cap }) 3 (.int .i64 1) rfl;refine ⟨rfl,_,hM3,?_,?_⟩
   ·exact ownsRow_setCell_below (ownsRow_setCell_below (ownsRow_setCell_below (ownsRow_setCell_below hO2.out (a:=⟨M,4,none⟩) (by show M<M+1;omega) _) (a:=⟨M,1,none⟩) (by show M<M+1;omega) _) (a:=⟨M,2,none⟩) (by show M<M+1;omega) _) (a:=⟨M,3,none⟩) (by show M<M+1;omega) _
   ·exact (((hB2.out.setCell (p:=⟨M,4,none⟩) (Nat.le_refl M) _).setCell (p:=⟨M,1,none⟩) (Nat.le_refl M) _).setCell (p:=⟨M,2,none⟩) (Nat.le_refl M) _).setCell (p:=⟨M,3,none⟩) (Nat.le_refl M) _
   refine' AllReadyH.cons (o:=_) ?p14C (fun K hK=>?q14C) ?r14C
   case p14C=>(simp only [List.getElem?_toArray,List.getElem?_cons_succ,List.getElem?_cons_zero];exact rfl)
   case r14C=>exact AllReadyH.nil
   go_simp;refine hK.out _ _ ?_ (fun hHeld=>?_)
   ·go_keep
   clear hK K
   (try simp only [Act.put,List.setIfInBounds_toArray,List.set_cons_zero,List.set_cons_succ])
   refine wpAnyH_ready (rs:=[4]) (by kernel_rfl) (by simp) ?_
   refine' AllReadyH.cons (o:=_) ?p4D (fun K hK=>?q4D) ?r4D
   case p4D=>(simp only [List.getElem?_toArray,List.getElem?_cons_succ,List.getElem?_cons_zero];exact rfl)
   case r4D=>exact AllReadyH.nil
   go_simp;refine hK.out _ _ ?_ (fun hHeld=>?_)
   ·exact hHeld
   clear hK K
   (try simp only [Act.put,List.setIfInBounds_toArray,List.set_cons_zero,List.set_cons_succ])
   refine wpAnyH_ready (rs:=[15]) (by kernel_rfl) (by simp) ?_
   refine' AllReadyH.cons (o:=_) ?p15E (fun K hK=>?q15E) ?r15E
   case p15E=>(simp only [List.getElem?_toArray,List.getElem?_cons_succ,List.getElem?_cons_zero];exact rfl)
   case r15E=>exact AllReadyH.nil
   refine step_append_lies _ (by rfl) (.tmp 10) (.tmp 20) _ (by rfl) (M+1) 76 i0 _ 4 40 Tryz.underlying61 hi.out hz0.out hz1.out hz2.out rfl (by decide) toks n xs (by rfl) ((hO.out.alloc _).drew) ⟨w.heap.size,0,none⟩ 1 1 (tokC 1 ⟨#[10]⟩ line col) (by rfl) (by rfl) (World.news_of_block (heap_alloc_new w _)) (oc _ rfl) (by decide) (by unfold maxLen;omega) (by omega) (by simp;omega) (w.heap.size+1) (by simp) ?_
   intro g cap w1 hown1 hgrow hat hg;have hfz1:w1.frozen? ⟨M,5,none⟩=false:=(hgrow.frozen_far (a:=⟨M,5,none⟩) (by simp;omega) (by intro e;exact hne.out e.symm)).trans ((Below.frozen ((Below.refl w.heap.size w).alloc (Nat.le_refl _) _).drew (p:=⟨M,5,none⟩) hlt).trans hfz)
   have q51:w1.cell? ⟨M,5,none⟩=some toks:=(hgrow.cell_far (a:=⟨M,5,none⟩) (by simp;omega) (by intro e;exact hne.out e.symm)).trans ((Below.cell ((Below.refl w.heap.size w).alloc (Nat.le_refl _) _).drew (p:=⟨M,5,none⟩) hlt).trans q5)
   refine hK.out _ _ ?_ (fun hHeld=>?_)
   ·refine ⟨?_,?_⟩<;>(rw [hgrow.cell_far _ (by simp;omega) (by intro e;exact hne.out e.symm)];go_keep)
   clear hK K
   (try simp only [Act.put,List.setIfInBounds_toArray,List.set_cons_zero,List.set_cons_succ])
   refine' wpAnyH_take (i:=16) (oi:=_) (v:=_) ?a16E ?b16E ?c16E ?d16E ?e16E (Or.inl ⟨?f16E,?g16E⟩) hHeld ?h16E
   case a16E=>(simp only [List.getElem?_toArray,List.getElem?_cons_succ,List.getElem?_cons_zero];exact rfl)
   case b16E=>kernel_rfl
   case c16E=>kernel_rfl
   case d16E=>kernel_rfl
   case e16E=>exact fun _ _ _ h=>h
   case f16E=>rfl
   case g16E=>(intro w' hSw;obtain ⟨s2,s3⟩:=hSw;go_simp;(try with_reducible rfl))
   simp only [Act.put,List.setIfInBounds_toArray,List.set_cons_zero,List.set_cons_succ];refine' wpAnyH_take (i:=17) (oi:=_) (v:=_) ?a17E ?b17E ?c17E ?d17E ?e17E (Or.inl ⟨?f17E,?g17E⟩) hHeld ?h17E
   case a17E=>(simp only [List.getElem?_toArray,List.getElem?_cons_succ,List.getElem?_cons_zero];exact rfl)
   case b17E=>kernel_rfl
   case c17E=>kernel_rfl
   case d17E=>kernel_rfl
   case e17E=>exact fun _ _ _ h=>h
   case f17E=>rfl
   case g17E=>(intro w' hSw;obtain ⟨s2,s3⟩:=hSw;go_simp;(try with_reducible rfl))
   simp only [Act.put,List.setIfInBounds_toArray,List.set_cons_zero,List.set_cons_succ];refine wpAnyH_ready (rs:=[18]) (by kernel_rfl) (by simp) ?_
   refine' AllReadyH.cons (o:=_) ?p18E (fun K hK=>?q18E) ?r18E
   case p18E=>(simp only [List.getElem?_toArray,List.getElem?_cons_succ,List.getElem?_cons_zero];exact rfl)
   case r18E=>exact AllReadyH.nil
   go_simp;refine hK.out _ _ ?_ (fun hHeld=>?_)
   ·obtain ⟨k2,k3⟩:=hHeld;exact ⟨set_far k2 (by decide),set_far k3 (by decide)⟩
   clear hK K
   (try simp only [Act.put,List.setIfInBounds_toArray,List.set_cons_zero,List.set_cons_succ])
   refine wpAnyH_done (by kernel_rfl) ?_ _
   have hM1:MachAt w1 M { text:=text,pos:=pos,line:=line,col:=col,opn:=true,toks:=toks }:=MachAt.of_block hM.out ((hgrow.block M (by simp;omega) (fun e=>hne.out e.symm)).trans (((Below.refl w.heap.size w).alloc (Nat.le_refl _) _).drew.block M hlt))
   have hM2:=hM1.set (m':={ text:=text,pos:=pos,line:=line,col:=col,opn:=true,toks:=Value.slice (some { block:=g,off:=0 }) (n+1) cap }) 5 (Value.slice (some { block:=g,off:=0 }) (n+1) cap) rfl;have hO2:=ownsRow_setCell_below hown1 (a:=⟨M,5,none⟩) (by show M<M+1;omega) (Value.slice (some { block:=g,off:=0 }) (n+1) cap)
   have hB2:Below M w (w1.setCell ⟨M,5,none⟩ (Value.slice (some { block:=g,off:=0 }) (n+1) cap)):=Below.setCell ((((Below.refl M w).alloc (Nat.le_of_lt hlt) _).drew).grown hgrow (show M≤(w.heap.push _).size by simp only [Array.size_push];omega) (fun k hk=>Nat.le_of_succ_le (hO.out.lt k hk).1)) (Nat.le_refl M) _
   clear hfz1 q51 hHeld hM1 hown1;generalize w1.setCell ⟨M,5,none⟩ (Value.slice (some { block:=g,off:=0 }) (n+1) cap)=W at *;have hM2:=Hi hM2;have hO2:=Hi hO2;have hB2:=Hi hB2;clear q1 q2 q3 q4 q5 hfz n5;have q1:=hM2.out.c1;have q2:=hM2.out.c2;have f4:=hM2.out.free 4;have q4:=hM2.out.c4;have f1:=hM2.out.free 1;have f2:=hM2.out.free 2;have f3:=hM2.out.free 3;have q3:=hM2.out.c3;dsimp only at q1 q2 q3 q4;go_wp2_with fail;go_end0;have hM3:=(((hM2.out.set (m':={ text:=text,pos:=pos,line:=line,col:=col,opn:=false,toks:=Value.slice (some { block:=g,off:=0 }) (n+1) cap }) 4 (.bool false) rfl).set (m':={ text:=text,pos:=pos+1,line:=line,col:=col,opn:=false,toks:=Value.slice (some { block:=g,off:=0 }) (n+1) cap }) 1 (.int .i64 ((pos:Int)+1)) rfl).set (m':={ text:=text,pos:=pos+1,line:=line+1,col:=col,opn:=false,toks:=Value.slice (some { block:=g,off:=0 }) (n+1) cap }) 2 (.int .i64 (line+1)) rfl).set (m':={ text:=text,pos:=pos+1,line:=line+1,col:=1,opn:=false,toks:=Value.slice (some { block:=g,off:=0 }) (n+1) cap }) 3 (.int .i64 1) rfl;refine ⟨rfl,_,hM3,?_,?_⟩
   ·exact ownsRow_setCell_below (ownsRow_setCell_below (ownsRow_setCell_below (ownsRow_setCell_below hO2.out (a:=⟨M,4,none⟩) (by show M<M+1;omega) _) (a:=⟨M,1,none⟩) (by show M<M+1;omega) _) (a:=⟨M,2,none⟩) (by show M<M+1;omega) _) (a:=⟨M,3,none⟩) (by show M<M+1;omega) _
   ·exact (((hB2.out.setCell (p:=⟨M,4,none⟩) (Nat.le_refl M) _).setCell (p:=⟨M,1,none⟩) (Nat.le_refl M) _).setCell (p:=⟨M,2,none⟩) (Nat.le_refl M) _).setCell (p:=⟨M,3,none⟩) (Nat.le_refl M) _
end Go.Proofs.YtjokciofeicdkaaGreatDoor
namespace Go.Proofs.YtjokciofeicdkaaGreatDoor
open Go.RowKit
theorem speakS_le (s:ByteArray)(lines:Bool):∀ n i said,i≤s.size→(speakS s lines n i said).2.1≤s.size∧i≤(speakS s lines n i said).2.1
 | 0,i,said,h=>⟨h,Nat.le_refl _⟩
 | n+1,i,said,h=>by
   unfold speakS
   by_cases hi:i<s.size
   ·rw [if_pos hi];have he:=(escS_le (s.extract i s.size)).1;have hes:(s.extract i s.size).size=s.size-i:=by simp [ByteArray.size_extract]
    have hw:=width_le s i hi
    split
    ·exact ⟨hi,Nat.le_succ _⟩
    split
    ·split
     ·exact ⟨h,Nat.le_refl _⟩
     ·have:=speakS_le s lines n (i+(escS (s.extract i s.size)).2) (said++(escS (s.extract i s.size)).1) (by omega)
      omega
    split
    ·exact ⟨h,Nat.le_refl _⟩
    split
    ·exact ⟨h,Nat.le_refl _⟩
    ·have:=speakS_le s lines n (i+(Utf8.decode s i).2) (said++Lib.encodeRuneZ (Utf8.decode s i).1) hw;omega
   ·rw [if_neg hi];exact ⟨Nat.le_refl _,by omega⟩
theorem wordLen_pos (l:Bytes)(h:classL l=5∨classL l=6):1≤wordLen l:=by
 cases l with
 | nil=>rcases h with h|h<;>cases h
 | cons c r=>
   have:wordU c=true:=by rw [← wordL_cons c r];unfold wordL;rcases h with h|h<;>rw [h]<;>decide
   unfold wordLen;rw [if_pos this];omega
theorem numLen_pos (l:Bytes)(h:classL l=6):1≤numLen l:=by
 cases l with
 | nil=>cases h
 | cons c r=>
   have:wordU c=true:=by rw [← wordL_cons c r];unfold wordL;rw [h];decide
   unfold numLen;rw [if_pos (by rw [this];rfl)];omega
theorem signFrom_le (s:ByteArray):∀ l:List ByteArray,signFrom s l≤s.size
 | []=>Nat.zero_le _
 | g::r=>by unfold signFrom;split;· rename_i h;exact h.1
            ·exact signFrom_le s r
theorem pieceS_le (s:ByteArray)(h1:1≤s.size):∃ (k c:Int) (sz off:Nat),pieceS s=(k,(sz:Int),(off:Int),c)∧sz≤s.size∧off≤s.size∧(c=0→1≤sz):=by
 have hl:=bs_length s;unfold pieceS
 split
 ·rename_i h;have hp:=wordLen_pos _ (.inl h);have hw:=wordLen_le (bs s);unfold nameP
  split
  ·exact ⟨0,36,0,0,rfl,by omega,by omega,by intro h;cases h⟩
  split
  ·rename_i hd
   split
   ·exact ⟨0,36,0,0,rfl,by omega,by omega,by intro h;cases h⟩
   ·have hw2:=wordLen_le ((bs s).drop (wordLen (bs s)+1));have hp2:=wordLen_pos _ (.inl hd.2);rw [List.length_drop] at hw2;exact ⟨3,0,wordLen (bs s)+1+wordLen ((bs s).drop (wordLen (bs s)+1)),0,by simp [q4],by omega,by omega,by intro;omega⟩
  ·exact ⟨2,0,wordLen (bs s),0,rfl,by omega,by omega,by intro;omega⟩
 split
 ·rename_i h;have hp:=numLen_pos _ h;have hw:=numLen_le (bs s)
  split
  ·exact ⟨4,0,numLen (bs s),0,rfl,by omega,by omega,by intro;omega⟩
  ·exact ⟨0,31,0,0,rfl,by omega,by omega,by intro h;cases h⟩
 split
 ·have hw:=wordLen_le (bs (s.extract 1 s.size));rw [bs_length,ByteArray.size_extract] at hw
  split
  ·exact ⟨5,0,1+wordLen (bs (s.extract 1 s.size)),0,rfl,by omega,by omega,by intro;omega⟩
  ·exact ⟨0,44,0,0,rfl,by omega,by omega,by intro h;cases h⟩
 split
 ·have hsp:=speakS_le s true (s.size+1) 1 [] h1
  split
  ·split
   ·exact ⟨0,37,0,0,rfl,by omega,by omega,by intro h;cases h⟩
   ·exact ⟨6,0,(speakS s true (s.size+1) 1 []).2.1,0,rfl,hsp.1,by omega,fun _=>hsp.2⟩
  ·rename_i hne;exact ⟨0,(speakS s true (s.size+1) 1 []).2.2,0,(speakS s true (s.size+1) 1 []).2.1,rfl,by omega,hsp.1,fun h=>absurd h hne⟩
 split
 ·exact ⟨0,30,0,0,rfl,by omega,by omega,by intro h;cases h⟩
 ·rename_i hne;exact ⟨7,0,signFrom s signsB,0,rfl,signFrom_le s _,by omega,fun _=>by omega⟩
structure Sc where
 pos:Nat
 line:Int
 col:Int
 opn:Bool
 n:Nat
 toks:List Value
def Sc.fwd (m:Sc)(s:ByteArray)(size:Nat):Sc:={ m with pos:=m.pos+size,col:=m.col+runesFrom (s.extract m.pos (m.pos+size)) 0 }
def Sc.put (m:Sc)(s:ByteArray)(kind:Int)(size:Nat):Sc:=
 { m with pos:=m.pos+size,col:=m.col+runesFrom (s.extract m.pos (m.pos+size)) 0,opn:=true,n:=m.n+1,toks:=m.toks++tokC kind (s.extract m.pos (m.pos+size)) m.line m.col }
def Sc.endl (m:Sc):Sc:=
 { pos:=m.pos+1,line:=m.line+1,col:=1,opn:=false,n:=if m.opn then m.n+1 else m.n,toks:=if m.opn then m.toks++tokC 1 ⟨#[10]⟩ m.line m.col else m.toks }
def lineLen:Bytes→Nat
 | []=>0
 | c::r=>if c.toNat=10 then 0 else lineLen r+1
theorem lineLen_le:∀ l:Bytes,lineLen l≤l.length
 | []=>Nat.le_refl _
 | c::r=>by have:=lineLen_le r;unfold lineLen;split<;>simp<;>omega
theorem lineLen_pos (l:Bytes)(h:classL l=4):1≤lineLen l:=by
 cases l with
 | nil=>cases h
 | cons c r=>
   unfold lineLen
   split
   ·rename_i h10;change classN c.toNat=4 at h;rw [h10] at h;exact absurd h (by decide)
   ·omega
def runS (s:ByteArray):Nat→Sc→Int×Sc
 | 0,m=>(0,m)
 | k+1,m=>
   if classL ((bs s).drop m.pos)=1 then (0,m.endl)
   else if classL ((bs s).drop m.pos)=3 then runS s k m.endl
   else if classL ((bs s).drop m.pos)=2 then runS s k (m.fwd s 1)
   else if classL ((bs s).drop m.pos)=4 then runS s k (m.fwd s (lineLen ((bs s).drop m.pos)))
   else if (pieceS (s.extract m.pos s.size)).2.2.2=0 then runS s k (m.put s (pieceS (s.extract m.pos s.size)).1 (pieceS (s.extract m.pos s.size)).2.1.toNat)
   else ((pieceS (s.extract m.pos s.size)).2.2.2,m.fwd s (pieceS (s.extract m.pos s.size)).2.2.1.toNat)
theorem classL_end (s:ByteArray)(k:Nat)(hk:k≤s.size):classL ((bs s).drop k)=1↔k=s.size:=by
 by_cases h:k<s.size
 ·rw [bs_drop s k h];constructor
  ·intro hc;exfalso;change classN _=1 at hc;unfold classN at hc;(repeat' split at hc)<;>cases hc
  ·intro e;omega
 ·rw [bs_drop_end s k h];exact ⟨fun _=>by omega,fun _=>rfl⟩
structure Sc.Ok (m:Sc)(s:ByteArray):Prop where
 pos:m.pos≤s.size
 l0:1≤m.line
 l1:m.line≤m.pos+1
 c0:1≤m.col
 c1:m.col≤m.pos+1
 n:m.n+(if m.opn then 1 else 0)≤2*m.pos
theorem Sc.Ok.fwd {m:Sc}{s:ByteArray}(h:m.Ok s)(k:Nat)(hk:m.pos+k≤s.size):(m.fwd s k).Ok s:=by
 obtain ⟨h1,h2,h3,h4,h5,h6⟩:=h;have hr:=runesFrom_le (s.extract m.pos (m.pos+k)) _ 0 (Nat.le_refl _);rw [ByteArray.size_extract] at hr;have:(runesFrom (s.extract m.pos (m.pos+k)) 0:Nat)≤k:=by omega
 refine ⟨hk,h2,?_,?_,?_,(show m.n+(if m.opn then 1 else 0)≤2*(m.pos+k) by omega)⟩<;>simp only [Sc.fwd]<;>omega
theorem Sc.Ok.put {m:Sc}{s:ByteArray}(h:m.Ok s)(kind:Int)(k:Nat)(h1':1≤k)(hk:m.pos+k≤s.size):(m.put s kind k).Ok s:=by
 obtain ⟨h1,h2,h3,h4,h5,h6⟩:=h;have hr:=runesFrom_le (s.extract m.pos (m.pos+k)) _ 0 (Nat.le_refl _);rw [ByteArray.size_extract] at hr;have:(runesFrom (s.extract m.pos (m.pos+k)) 0:Nat)≤k:=by omega
 refine ⟨hk,h2,?_,?_,?_,?_⟩<;>simp only [Sc.put,if_true]<;>omega
theorem Sc.Ok.endl {m:Sc}{s:ByteArray}(h:m.Ok s)(hk:m.pos<s.size):m.endl.Ok s:=by
 obtain ⟨h1,h2,h3,h4,h5,h6⟩:=h;refine ⟨hk,?_,?_,?_,?_,?_⟩<;>simp only [Sc.endl]
 ·omega
 ·omega
 ·omega
 ·omega
 ·cases hm:m.opn<;>rw [hm] at h6<;>simp only [if_true,Bool.false_eq_true,if_false] at h6 ⊢<;>omega
end Go.Proofs.YtjokciofeicdkaaGreatDoor
namespace Go.Proofs.YtjokciofeicdkaaGreatDoor
open Go.RowKit
attribute [local go_sem ↓] Go.wp_at_zero Go.wp_at_succ
def cls:Nat→Int
 | 0=>1
 | 1=>3
 | 2=>2
 | 3=>4
 | _=>0
def RunJ (s:ByteArray)(M:Nat)(w0:World)(R:Int×Sc)(l:Nat):Act→World→Prop:=fun a' w'=>
 ∃ (k:Nat) (m:Sc) (v:Value) (f:Nat→Value),
  a'={ tmps:=#[.pointer (some ⟨M,0,none⟩),f 1,f 2,f 3,f 4,f 5,f 6,f 7,f 8,f 9,f 10,f 11,f 12,f 13,f 14,f 15,f 16,f 17,f 18,f 19,f 20,f 21,f 22,f 23,f 24,f 25,f 26,f 27,f 28,f 29,f 30,f 31,f 32,f 33,f 34,f 35,f 36,f 37,f 38,f 39,f 40,f 41,f 42,f 43,f 44,f 45,f 46,f 47,f 48,f 49,f 50,f 51,f 52,f 53,f 54,f 55,f 56,f 57,f 58,f 59,f 60,f 61,f 62,f 63,f 64,f 65,f 66,f 67,f 68,f 69,f 70,f 71,f 72,f 73,f 74,f 75,f 76,f 77,f 78,f 79,f 80,f 81,f 82,f 83,f 84,f 85],defers:=[] } ∧
  Hid (MachAt w' M ⟨s,m.pos,m.line,m.col,m.opn,v⟩)∧Hid (w'.ownsRow (M+1) 76 4 v m.n m.toks)∧m.Ok s∧s.size<m.pos+k∧Hid (R=runS s k m) ∧
  Hid (Env w')∧Hid (Below M w0 w')∧(l=0∨l=1∨l=2∨l=3∨l=4)∧Hid (l≠4→classL ((bs s).drop m.pos)=cls l)
theorem runJ_mk {s:ByteArray}{M:Nat}{w0 w':World}{R:Int×Sc}(l k:Nat)(m:Sc)(v:Value){x1 x2 x3 x4 x5 x6 x7 x8 x9 x10 x11 x12 x13 x14 x15 x16 x17 x18 x19 x20 x21 x22 x23 x24 x25 x26 x27 x28 x29 x30 x31 x32 x33 x34 x35 x36 x37 x38 x39 x40 x41 x42 x43 x44 x45 x46 x47 x48 x49 x50 x51 x52 x53 x54 x55 x56 x57 x58 x59 x60 x61 x62 x63 x64 x65 x66 x67 x68 x69 x70 x71 x72 x73 x74 x75 x76 x77 x78 x79 x80 x81 x82 x83 x84 x85:Value}
 (hM:Hid (MachAt w' M ⟨s,m.pos,m.line,m.col,m.opn,v⟩)) (hO:Hid (w'.ownsRow (M+1) 76 4 v m.n m.toks)) (hok:m.Ok s) (hk:s.size<m.pos+k) (hR:Hid (R=runS s k m))
 (hE:Hid (Env w')) (hB:Hid (Below M w0 w')) (hl:l=0∨l=1∨l=2∨l=3∨l=4) (hc:Hid (l≠4→classL ((bs s).drop m.pos)=cls l)) :
 RunJ s M w0 R l { tmps:=#[.pointer (some ⟨M,0,none⟩),x1,x2,x3,x4,x5,x6,x7,x8,x9,x10,x11,x12,x13,x14,x15,x16,x17,x18,x19,x20,x21,x22,x23,x24,x25,x26,x27,x28,x29,x30,x31,x32,x33,x34,x35,x36,x37,x38,x39,x40,x41,x42,x43,x44,x45,x46,x47,x48,x49,x50,x51,x52,x53,x54,x55,x56,x57,x58,x59,x60,x61,x62,x63,x64,x65,x66,x67,x68,x69,x70,x71,x72,x73,x74,x75,x76,x77,x78,x79,x80,x81,x82,x83,x84,x85],defers:=[] } w':=
 ⟨k,m,v,fun i=>(#[.pointer (some ⟨M,0,none⟩),x1,x2,x3,x4,x5,x6,x7,x8,x9,x10,x11,x12,x13,x14,x15,x16,x17,x18,x19,x20,x21,x22,x23,x24,x25,x26,x27,x28,x29,x30,x31,x32,x33,x34,x35,x36,x37,x38,x39,x40,x41,x42,x43,x44,x45,x46,x47,x48,x49,x50,x51,x52,x53,x54,x55,x56,x57,x58,x59,x60,x61,x62,x63,x64,x65,x66,x67,x68,x69,x70,x71,x72,x73,x74,x75,x76,x77,x78,x79,x80,x81,x82,x83,x84,x85]:Array Value).getD i undef,rfl,hM,hO,hok,hk,hR,hE,hB,hl,hc⟩
def runMu (s:ByteArray)(M:Nat)(l:Nat)(w:World):Nat:=2*(s.size+1-(intOf ((w.cell? ⟨M,1,none⟩).getD undef)).toNat)+if l=4 then 1 else 0
theorem runMu_of (s:ByteArray)(M l:Nat)(w:World)(m:Mach)(h:MachAt w M m):runMu s M l w=2*(s.size+1-m.pos)+if l=4 then 1 else 0:=by
 unfold runMu;rw [h.c1];rfl
theorem own_fwd {w w':World}{M n:Nat}{v:Value}{xs:List Value}(h:w.ownsRow (M+1) 76 4 v n xs)(hg:w.grownBy w' (some M)):w'.ownsRow (M+1) 76 4 v n xs:=by
 refine own_heap h (fun k hk=>hg.block k (h.lt k hk).2 (fun e=>?_))
 have h1:=(h.lt k hk).1
 injection e with e
 omega
theorem lineLen_at (s:ByteArray)(k:Nat)(h:k<s.size):lineLen ((bs s).drop k)=if s[k].toNat=10 then 0 else lineLen ((bs s).drop (k+1))+1:=by
 rw [bs_drop s k h];rfl
theorem lineLen_end (s:ByteArray)(k:Nat)(h:s.size≤k):lineLen ((bs s).drop k)=0:=by rw [bs_drop_end s k (by omega)];rfl
def RunPost (s:ByteArray)(M:Nat)(w:World)(R:Int×Sc)(e:Ending)(w':World):Prop:=
 e=.returned (.int .i64 R.1)∧∃ v,MachAt w' M ⟨s,R.2.pos,R.2.line,R.2.col,R.2.opn,v⟩∧w'.ownsRow (M+1) 76 4 v R.2.n R.2.toks∧Below M w w'∧R.2.n≤2*s.size+1
theorem run_any (s:ByteArray)(M:Nat)(w:World)(hm:MachAt w M ⟨s,0,1,1,false,.slice none 0 0⟩)(hs:s.size≤2147483647)(E:∀ w',Below M w w'→Env w') :
 Calls Tryz.prog 45 #[.pointer (some ⟨M,0,none⟩)] w fun e w'=>RunPost s M w (runS s (s.size+1) ⟨0,1,1,false,0,[]⟩) e w':=by
 obtain ⟨R,hR⟩:∃ R,R=runS s (s.size+1) ⟨0,1,1,false,0,[]⟩:=⟨_,rfl⟩
 rw [← hR];have hR0:=Hi hR;have hM0:=Hi hm;have EE:=Hi E;clear hR hm E;go_enter Tryz.func45,Tryz.ntmps45;go_wp2_with fail;refine wp_scope_many2 (RunJ s M w R) (fun l _ w'=>runMu s M l w') ?_ ?_
 ·rintro l a' w' ⟨k,m,v,f,rfl,hM,hO,hok,hk,hR,hE,hB,hl,hc⟩;have hpos:=hok.pos;have hmu:=Hi (runMu_of s M l w' _ hM.out);have q0:=hM.out.c0;have q1:=hM.out.c1;dsimp only at q0 q1;have hpz:(m.pos:Int)≤(s.size:Int):=by omega
  have hp0:(0:Int)≤(m.pos:Int):=by omega
  rcases hl with rfl|rfl|rfl|rfl|rfl
  case' inr.inr.inr.inr=>
   refine ⟨_,rfl,?_⟩;have c0:=Hi (fun W=>classOf_any s m.pos W (by omega) (by omega) (by omega))
   simp only [Int.toNat_natCast] at c0;clear hc;obtain ⟨q,hq⟩:∃ q,q=classL ((bs s).drop m.pos):=⟨_,rfl⟩
   rw [← hq] at c0;go_wp2_with fail
   go_region_held3 (fun W=>W.cell? ⟨M,0,none⟩=some (.string s)∧W.cell? ⟨M,1,none⟩=some (.int .i64 m.pos)) (first|exact hHeld|go_keep) ((go_at_call 60;refine (c0.out _).mono ?_;rintro e w1 ⟨rfl,rfl⟩))
   (try clear hHeld)
   clear c0 q0 q1;have hM:Hid (MachAt w'.drew M ⟨s,m.pos,m.line,m.col,m.opn,v⟩):=hM;have hO:Hid (w'.drew.ownsRow (M+1) 76 4 v m.n m.toks):=Hi hO.out.drew;have hE:Hid (Env w'.drew):=Hi (hE.out.drewN 1);have hB:Hid (Below M w w'.drew):=Hi hB.out.drew
   have hmu2:Hid (∀ l',l'≠4→runMu s M l' w'.drew<runMu s M 4 w'):=Hi (fun l' hl'=>by
    rw [runMu_of s M l' _ _ hM.out,hmu.out,if_neg hl'];simp)
   generalize w'.drew=W at *
   by_cases h1:q=1
   ·subst h1;go_wp2_with fail;go_step3
    (try simp only [Exit.jumps])
    exact ⟨runJ_mk _ k m v hM hO hok hk hR hE hB (by decide) (Hi (fun _=>hq.symm)),hmu2.out _ (by decide)⟩
   by_cases h3:q=3
   ·subst h3;go_wp2_with fail;go_step3
    (try simp only [Exit.jumps])
    exact ⟨runJ_mk _ k m v hM hO hok hk hR hE hB (by decide) (Hi (fun _=>hq.symm)),hmu2.out _ (by decide)⟩
   by_cases h2:q=2
   ·subst h2;go_wp2_with fail;go_step3
    (try simp only [Exit.jumps])
    exact ⟨runJ_mk _ k m v hM hO hok hk hR hE hB (by decide) (Hi (fun _=>hq.symm)),hmu2.out _ (by decide)⟩
   by_cases h4:q=4
   ·subst h4;go_wp2_with fail;go_step3
    (try simp only [Exit.jumps])
    exact ⟨runJ_mk _ k m v hM hO hok hk hR hE hB (by decide) (Hi (fun _=>hq.symm)),hmu2.out _ (by decide)⟩
   obtain ⟨kd,cd,sz,off,hpc,hsz,hoff,hsz1⟩:=pieceS_le (s.extract m.pos s.size) (by
    have:m.pos≠s.size:=fun e=>h1 (hq.trans ((classL_end s m.pos hpos).2 e))
    rw [ByteArray.size_extract];omega)
   have hxs:(s.extract m.pos s.size).size=s.size-m.pos:=by rw [ByteArray.size_extract];omega
   rw [hxs] at hsz hoff
   have hlt:m.pos<s.size:=by
    have:m.pos≠s.size:=fun e=>h1 (hq.trans ((classL_end s m.pos hpos).2 e))
    omega
   have c1:Hid (∀ W,Env W→Calls Tryz.prog 61 #[.string (s.extract m.pos s.size)] W fun e w'=>e=.returned (.tuple #[.int .i64 kd,.int .i64 sz,.int .i64 off,.int .i64 cd])∧Below W.heap.size W w'):=
    Hi (fun W E=>(piece_any (s.extract m.pos s.size) (by omega) (by omega) W E).mono fun e w' h=>by rw [hpc] at h;exact h)
   have hR:Hid (R=if cd=0 then runS s (k-1) (m.put s kd sz) else (cd,m.fwd s off)):=Hi (by
    rw [hR.out];obtain ⟨k',rfl⟩:∃ k',k=k'+1:=⟨k-1,by omega⟩
    conv=>lhs;unfold runS
    rw [← hq,if_neg h1,if_neg h3,if_neg h2,if_neg h4,hpc]
    rfl)
   have hMl:=hM.out.lt;have q0:=hM.out.c0;have q1:=hM.out.c1;dsimp only at q0 q1;clear hmu2 hpc hxs;have hh1:=Hi h1;have hh2:=Hi h2;have hh3:=Hi h3;have hh4:=Hi h4;have e1:(q == 1)=false:=by simpa using h1
   have e2:(q == 2)=false:=by simpa using h2
   have e3:(q == 3)=false:=by simpa using h3
   have e4:(q == 4)=false:=by simpa using h4
   clear h1 h2 h3 h4;rw [← hq];go_wp2_with fail
   go_region_held3 (fun W=>W.cell? ⟨M,0,none⟩=some (.string s)∧W.cell? ⟨M,1,none⟩=some (.int .i64 m.pos)) (first|exact hHeld|go_keep|exact ⟨(hb1.cell (p:=⟨M,0,none⟩) hMl).trans q0,(hb1.cell (p:=⟨M,1,none⟩) hMl).trans q1⟩) ((go_at_call 61;refine (c1.out _ (hE.out.drewN 1)).mono ?_;rintro e w1 ⟨rfl,hb1⟩))
   (try clear hHeld)
   clear c1 q0 q1;have hb1:Below W.heap.size W w1:=⟨hb1.os,hb1.tape,hb1.output,hb1.size,hb1.block⟩;have hM1:=Hi (hM.out.of_block (hb1.block M hMl));have hO1:=Hi (own_below hO.out hb1);have hE1:=Hi (hE.out.below hb1);have hB1:=Hi (hB.out.trans (hb1.mono (Nat.le_of_lt hMl)));clear hM hO hE hB hb1
   by_cases hcd:cd=0
   ·subst hcd;have hs1:1≤sz:=hsz1 rfl;clear hsz1;have hR:=Hi (hR.out.trans (if_pos rfl));have hnn:=hok.n;have hp:=Hi (put_any M _ kd sz m.n m.toks w1 hM1.out hO1.out (by omega) (by show m.pos+sz≤s.size;omega) (by show s.size≤_;omega) (by have:=hok.c0;show 0≤m.col;omega) (by have:=hok.c1;show m.col≤_;omega))
    go_wp2_with fail;refine hp.out.mono ?_;rintro e w3 ⟨rfl,v3,hM3,hO3,hB3⟩;go_wp2_with fail;go_step3
    (try simp only [Exit.jumps])
    refine ⟨runJ_mk 4 (k-1) (m.put s kd sz) v3 (Hi hM3) (Hi hO3) (hok.put kd sz hs1 (by omega)) (by show s.size<m.pos+sz+(k-1);omega) hR (Hi (EE.out _ (hB1.out.trans hB3))) (Hi (hB1.out.trans hB3)) (by decide) (Hi (fun h=>absurd rfl h)),?_⟩
    rw [runMu_of s M 4 w3 _ hM3,hmu.out]
    show 2*(s.size+1-(m.pos+sz))+1<2*(s.size+1-m.pos)+1
    omega
   ·have hR:=Hi (hR.out.trans (if_neg hcd));have ecd:(cd == 0)=false:=by simpa using hcd
    have ecd2:(cd != 0)=true:=by simpa using hcd
    clear hcd;have hp:=Hi (forward_any M _ off w1 hM1.out (by show m.pos+off≤s.size;omega) (by show s.size≤_;omega) (by have:=hok.c0;show 0≤m.col;omega) (by have:=hok.c1;show m.col≤_;omega))
    go_wp2_with fail;refine hp.out.mono ?_;rintro e w3 ⟨rfl,hM3,hg3⟩;go_wp2_with fail
    (try simp only [Exit.jumps])
    go_ret;rw [hR.out];have hnn:=hok.n;exact ⟨rfl,v,hM3,own_fwd hO1.out hg3,hB1.out.trans ((Below.refl M w1).grown hg3 (Nat.le_of_lt hM1.out.lt) (fun k hk=>by injection hk with hk;omega)),by show m.n≤_;omega⟩
  case' inl=>
   refine ⟨_,rfl,?_⟩;have hcl:classL ((bs s).drop m.pos)=1:=hc.out (by decide)
   have hR:Hid (R=(0,m.endl)):=Hi (by
    rw [hR.out];obtain ⟨k',rfl⟩:∃ k',k=k'+1:=⟨k-1,by omega⟩
    unfold runS;rw [hcl,if_pos rfl])
   have hnn:=hok.n;have hp:=Hi (endLine_any M _ m.n m.toks w' hM.out hO.out (by omega) hpos (by show s.size≤_;omega) (by have:=hok.l0;show 0≤m.line;omega) (by have:=hok.l1;show m.line≤_;omega))
   clear hcl;go_wp2_with fail;refine hp.out.mono ?_;rintro e w3 ⟨rfl,v3,hM3,hO3,hB3⟩;go_wp2_with fail
   (try simp only [Exit.jumps])
   go_ret;rw [hR.out];refine ⟨rfl,v3,hM3,hO3,hB.out.trans hB3,?_⟩
   show (if m.opn then m.n+1 else m.n)≤_
   cases hmo:m.opn<;>rw [hmo] at hnn<;>simp at hnn ⊢<;>omega
  case' inr.inl=>
   refine ⟨_,rfl,?_⟩;have hcl:classL ((bs s).drop m.pos)=3:=hc.out (by decide)
   have hlt:m.pos<s.size:=by
    have:m.pos≠s.size:=fun e=>by
     have:=(classL_end s m.pos hpos).2 e;rw [hcl] at this;exact absurd this (by decide)
    omega
   have hR:Hid (R=runS s (k-1) m.endl):=Hi (by
    rw [hR.out];obtain ⟨k',rfl⟩:∃ k',k=k'+1:=⟨k-1,by omega⟩
    conv=>lhs;unfold runS
    rw [hcl,if_neg (by decide),if_pos rfl];rfl)
   have hnn:=hok.n;have hp:=Hi (endLine_any M _ m.n m.toks w' hM.out hO.out (by omega) hpos (by show s.size≤_;omega) (by have:=hok.l0;show 0≤m.line;omega) (by have:=hok.l1;show m.line≤_;omega))
   clear hcl;go_wp2_with fail;refine hp.out.mono ?_;rintro e w3 ⟨rfl,v3,hM3,hO3,hB3⟩;go_wp2_with fail;go_step3
   (try simp only [Exit.jumps])
   refine ⟨runJ_mk 4 (k-1) m.endl v3 (Hi hM3) (Hi hO3) (hok.endl hlt) (by show s.size<m.pos+1+(k-1);omega) hR (Hi (EE.out _ (hB.out.trans hB3))) (Hi (hB.out.trans hB3)) (by decide) (Hi (fun h=>absurd rfl h)),?_⟩
   rw [runMu_of s M 4 w3 _ hM3,hmu.out]
   show 2*(s.size+1-(m.pos+1))+1<2*(s.size+1-m.pos)+0
   omega
  case' inr.inr.inl=>
   refine ⟨_,rfl,?_⟩;have hcl:classL ((bs s).drop m.pos)=2:=hc.out (by decide)
   have hlt:m.pos<s.size:=by
    have:m.pos≠s.size:=fun e=>by
     have:=(classL_end s m.pos hpos).2 e;rw [hcl] at this;exact absurd this (by decide)
    omega
   have hR:Hid (R=runS s (k-1) (m.fwd s 1)):=Hi (by
    rw [hR.out];obtain ⟨k',rfl⟩:∃ k',k=k'+1:=⟨k-1,by omega⟩
    conv=>lhs;unfold runS
    rw [hcl,if_neg (by decide),if_neg (by decide),if_pos rfl];rfl)
   have hp:=Hi (forward_any M _ 1 w' hM.out hlt (by show s.size≤_;omega) (by have:=hok.c0;show 0≤m.col;omega) (by have:=hok.c1;show m.col≤_;omega))
   clear hcl;go_wp2_with fail;refine hp.out.mono ?_;rintro e w3 ⟨rfl,hM3,hg3⟩;have hB3:Below M w' w3:=(Below.refl M w').grown hg3 (Nat.le_of_lt hM.out.lt) (fun k hk=>by injection hk with hk;omega)
   go_wp2_with fail;go_step3
   (try simp only [Exit.jumps])
   refine ⟨runJ_mk 4 (k-1) (m.fwd s 1) v (Hi hM3) (Hi (own_fwd hO.out hg3)) (hok.fwd 1 hlt) (by show s.size<m.pos+1+(k-1);omega) hR (Hi (EE.out _ (hB.out.trans hB3))) (Hi (hB.out.trans hB3)) (by decide) (Hi (fun h=>absurd rfl h)),?_⟩
   rw [runMu_of s M 4 w3 _ hM3,hmu.out]
   show 2*(s.size+1-(m.pos+1))+1<2*(s.size+1-m.pos)+0
   omega
  case' inr.inr.inr.inl=>
   refine ⟨_,rfl,?_⟩;have hcl:classL ((bs s).drop m.pos)=4:=hc.out (by decide)
   have hn1:=lineLen_pos _ hcl;have hn2:=lineLen_le ((bs s).drop m.pos);rw [List.length_drop,bs_length] at hn2
   have hR:Hid (R=runS s (k-1) (m.fwd s (lineLen ((bs s).drop m.pos)))):=Hi (by
    rw [hR.out];obtain ⟨k',rfl⟩:∃ k',k=k'+1:=⟨k-1,by omega⟩
    conv=>lhs;unfold runS
    rw [hcl,if_neg (by decide),if_neg (by decide),if_neg (by decide),if_pos rfl];rfl)
   clear hcl;have hn1:=Hi hn1;have hn2:=Hi hn2;have HL:=Hi (lineLen_at s);have HZ:=Hi (lineLen_end s);obtain ⟨ll,hll⟩:∃ ll,ll=lineLen ((bs s).drop m.pos):=⟨_,rfl⟩
   rw [← hll] at hn1 hn2 hR;have hll:=Hi hll;go_wp2_with fail
   go_loopw [4] (fun i wr=>∃ j:Nat,i=.int .i64 j∧m.pos+j≤s.size∧Hid (ll=j+lineLen ((bs s).drop (m.pos+j)))∧Qt w' wr) (fun i _=>s.size-(m.pos+(intOf i).toNat))
   case atStart=>exact ⟨0,rfl,by omega,Hi (by rw [hll.out];simp),Qt.refl _⟩
   case round=>
    obtain ⟨j,rfl,hj,hr,nd,rfl⟩:=hrel;have bw:IntKind.i64.wrap ((m.pos:Int)+(j:Int))=(m.pos:Int)+(j:Int):=IntWalk.i64_in _ (by omega)
    have bt:((m.pos:Int)+(j:Int)).toNat=m.pos+j:=by omega
    have b00:(0:Int)≤(m.pos:Int)+(j:Int):=by omega
    have bj:=wS j (by omega)
    have hp:=Hi (show m.pos+j=m.pos+j from rfl)
    by_cases hlt:m.pos+j<s.size
    ·have hl2:=Hi (HL.out (m.pos+j) hlt);have blt:(m.pos:Int)+(j:Int)<(s.size:Int):=by omega
     by_cases h10:s[m.pos+j].toNat=10
     ·have e10:((s[m.pos+j].toNat:Int) != 10)=false:=by simp;omega
      have hr:=Hi (show ll=j by rw [hr.out,hl2.out,if_pos h10];rfl)
      clear h10 hl2;go_wp2_with fail;go_quiet (fail);clear q0 q1;go_wp2_with fail;obtain rfl:ll=j:=hr.out;refine (forward_any M ⟨s,m.pos,m.line,m.col,m.opn,v⟩ ll (w'.drewN (nd+nq)) hM.out (by have:=hp.out;show m.pos+ll≤s.size;omega) (by show s.size≤_;omega) (by have:=hok.c0;show 0≤m.col;omega) (by have:=hok.c1;show m.col≤_;omega)).mono ?_
      rintro e w3 ⟨rfl,hM3,hg3⟩;have hg3:w'.grownBy w3 (some M):=⟨hg3.os,hg3.tape,hg3.output,hg3.size,hg3.block⟩;have hB3:Below M w' w3:=(Below.refl M w').grown hg3 (Nat.le_of_lt hM.out.lt) (fun k hk=>by injection hk with hk;omega)
      go_wp2_with fail;go_step3
      (try simp only [Exit.jumps])
      have hnl:=hn1.out;have hpl:=hp.out;refine ⟨runJ_mk 4 (k-1) (m.fwd s ll) v (Hi hM3) (Hi (own_fwd hO.out hg3)) (hok.fwd ll (by omega)) (by show s.size<m.pos+ll+(k-1);omega) hR (Hi (EE.out _ (hB.out.trans hB3))) (Hi (hB.out.trans hB3)) (by decide) (Hi (fun h=>absurd rfl h)),?_⟩
      rw [runMu_of s M 4 w3 _ hM3,hmu.out]
      show 2*(s.size+1-(m.pos+ll))+1<2*(s.size+1-m.pos)+0
      omega
     ·have e10:((s[m.pos+j].toNat:Int) != 10)=true:=by simp;omega
      have hr:=Hi (show ll=(j+1)+lineLen ((bs s).drop (m.pos+(j+1))) by
       rw [hr.out,hl2.out,if_neg h10,Nat.add_assoc m.pos j 1];omega)
      clear h10 hl2;go_wp2_with fail;go_quiet (fail);go_wp2_with fail
      go_round
      case rel=>exact ⟨j+1,by go_num,by have:=hp.out;omega,hr,Qt.self w' (nd+nq)⟩
      case measure=>simp [intOf];have:=hp.out;omega
    ·have hr:=Hi (show ll=j by rw [hr.out,HZ.out (m.pos+j) (by omega)];rfl)
     have blt:decide ((m.pos:Int)+(j:Int)<(s.size:Int))=false:=by simp;omega
     have blt2:¬ ((m.pos:Int)+(j:Int)<(s.size:Int)):=by omega
     go_wp2_with fail;go_quiet (fail);clear q0 q1;go_wp2_with fail;obtain rfl:ll=j:=hr.out;refine (forward_any M ⟨s,m.pos,m.line,m.col,m.opn,v⟩ ll (w'.drewN (nd+nq)) hM.out (by have:=hp.out;show m.pos+ll≤s.size;omega) (by show s.size≤_;omega) (by have:=hok.c0;show 0≤m.col;omega) (by have:=hok.c1;show m.col≤_;omega)).mono ?_
     rintro e w3 ⟨rfl,hM3,hg3⟩;have hg3:w'.grownBy w3 (some M):=⟨hg3.os,hg3.tape,hg3.output,hg3.size,hg3.block⟩;have hB3:Below M w' w3:=(Below.refl M w').grown hg3 (Nat.le_of_lt hM.out.lt) (fun k hk=>by injection hk with hk;omega)
     go_wp2_with fail;go_step3
     (try simp only [Exit.jumps])
     have hnl:=hn1.out;have hpl:=hp.out;refine ⟨runJ_mk 4 (k-1) (m.fwd s ll) v (Hi hM3) (Hi (own_fwd hO.out hg3)) (hok.fwd ll (by omega)) (by show s.size<m.pos+ll+(k-1);omega) hR (Hi (EE.out _ (hB.out.trans hB3))) (Hi (hB.out.trans hB3)) (by decide) (Hi (fun h=>absurd rfl h)),?_⟩
     rw [runMu_of s M 4 w3 _ hM3,hmu.out]
     show 2*(s.size+1-(m.pos+ll))+1<2*(s.size+1-m.pos)+0
     omega
 ·intro pass;refine wp_seq ?_
  repeat go_step
  rename_i hk;obtain ⟨y,hy,hw⟩:=pass 4 _ w (runJ_mk 4 (s.size+1) ⟨0,1,1,false,0,[]⟩ (.slice none 0 0) hM0 (Hi (World.ownsRow_nil _ _ _ _)) ⟨Nat.zero_le _,by decide,by decide,by decide,by decide,by decide⟩ (by show s.size<0+(s.size+1);omega) hR0 (Hi (EE.out _ (Below.refl _ _))) (Hi (Below.refl _ _)) (by decide) (Hi (fun h=>absurd rfl h)))
  injection hy with hy
  injection hy with _ hy
  subst hy;refine wp_label ?_;exact hk _ _ hw
structure Scanned where
 n:Nat
 toks:List Value
 code:Int
 line:Int
 col:Int
def scanS (s:ByteArray):Scanned:=
 if 16384<s.size then ⟨0,[],2,0,0⟩
 else if (runS s (s.size+1) ⟨0,1,1,false,0,[]⟩).1=0 then
  ⟨(runS s (s.size+1) ⟨0,1,1,false,0,[]⟩).2.n,(runS s (s.size+1) ⟨0,1,1,false,0,[]⟩).2.toks,0,0,0⟩
 else ⟨0,[],(runS s (s.size+1) ⟨0,1,1,false,0,[]⟩).1,(runS s (s.size+1) ⟨0,1,1,false,0,[]⟩).2.line,(runS s (s.size+1) ⟨0,1,1,false,0,[]⟩).2.col⟩
def ScanPost (w:World)(R:Scanned)(e:Ending)(w':World):Prop:=
 ∃ v,e=.returned (.tuple #[v,.int .i64 R.code,.int .i64 R.line,.int .i64 R.col])∧w'.ownsRow (w.heap.size+1) 76 4 v R.n R.toks∧Below w.heap.size w w'∧R.n≤32769
theorem Scan_any (s:ByteArray)(w:World)(hs:s.size≤9223372036854775807)(E:Env w) :
 Calls Tryz.prog 25 #[.string s] w fun e w'=>ScanPost w (scanS s) e w':=by
 by_cases h16:16384<s.size
 ·have H:=Hi (show scanS s=⟨0,[],2,0,0⟩ by unfold scanS;rw [if_pos h16])
  have b16:(s.size:Int)>16384:=by omega
  clear h16 E;go_enter Tryz.func25,Tryz.ntmps25;go_wp2_with fail
  ((try simp only [Exit.inBlock,Exit.then]);refine bodyPost_ret (results4 rfl _ _ _) rfl ?_)
  rw [H.out];exact ⟨_,rfl,World.ownsRow_nil _ _ _ _,Below.refl _ _,by decide⟩
 ·have b16:decide ((s.size:Int)>16384)=false:=by simp;omega
  have b17:¬ ((s.size:Int)>16384):=by omega
  have H:Hid (scanS s=_):=Hi (by unfold scanS;rw [if_neg h16])
  have c:=Hi (run_any s w.heap.size (w.alloc (.cells #[.string s,.int .i64 0,.int .i64 1,.int .i64 1,.bool false,.slice none 0 0] 99 (0,0))) (heap_alloc_new w _) (by omega) (fun w' hb=>E.below (((Below.refl w.heap.size w).alloc (Nat.le_refl _) _).trans hb)))
  generalize runS s (s.size+1) ⟨0,1,1,false,0,[]⟩=R at *;obtain ⟨code,m⟩:=R;dsimp only at H c;have hb0:=Hi ((Below.refl w.heap.size w).alloc (Nat.le_refl _) (.cells #[.string s,.int .i64 0,.int .i64 1,.int .i64 1,.bool false,.slice none 0 0] 99 (0,0)));clear E h16;go_enter Tryz.func25,Tryz.ntmps25;go_wp2_with fail;refine c.out.mono ?_;rintro e w1 ⟨rfl,v,hM,hO,hB,hn⟩;clear c;have q2:=hM.c2;have q3:=hM.c3;have q5:=hM.c5;dsimp only at q2 q3 q5;have hb:=Hi (hb0.out.trans hB);have hO:=Hi hO;have hM:=Hi hM;dsimp only at hO hn
  by_cases hc:code=0
  ·subst hc;have H2:=Hi (H.out.trans (if_pos rfl));clear H hB hb0 q2 q3;go_wp2_with fail
   ((try simp only [Exit.inBlock,Exit.then]);refine bodyPost_ret (results4 rfl _ _ _) rfl ?_)
   rw [H2.out];exact ⟨_,rfl,hO,hb.out,by show m.n≤32769;omega⟩
  ·have H2:=Hi (H.out.trans (if_neg hc));have hc1:(code != 0)=true:=by simp [hc]
   have hc2:(code == 0)=false:=by simp [hc]
   clear H hB hb0 q5 hc;go_wp2_with fail;go_quiet (fail);go_wp2_with fail
   ((try simp only [Exit.inBlock,Exit.then]);refine bodyPost_ret (results4 rfl _ _ _) rfl ?_)
   rw [H2.out];exact ⟨_,rfl,World.ownsRow_nil _ _ _ _,below_drewN hb.out _,Nat.zero_le _⟩
end Go.Proofs.YtjokciofeicdkaaGreatDoor
