/- A part of the proof of RunParses: DesA DesB DesC DesD DesE DesF DesG DesH DesI DesJ DesK DesL. -/
import Derived.Test.YtjokciofeicdkaaGreatDoorPK
import Derived.Test.YtjokciofeicdkaaGreatDoorPF
import Derived.Deep.AppendLies
import Derived.Deep.RegionLaw
import Derived.Lib.OwnKind
import Derived.Deep.RegionHeld3
import Derived.Lib.SmallJoins
import Derived.Laws.AppendOwnNone
set_option maxHeartbeats 16000000
set_option maxRecDepth 100000
set_option linter.all false
namespace Go.Proofs.YtjokciofeicdkaaGreatDoor
open Go.RowKit
def IntsIn (w:World)(v:Value)(ks:List Nat):Prop:=
 (v=.slice none 0 0∧ks=[])∨∃ g cap cs fz,ks≠[]∧v=.slice (some ⟨g,0,none⟩) ks.length cap∧w.heap[g]?=some (Obj.cells cs 3 fz)∧∀ (j k:Nat),ks[j]?=some k→w.cell? ⟨g,j,none⟩=some (.int .i64 k)
theorem IntsIn.kept {w w':World}{v:Value}{ks:List Nat}(h:IntsIn w v ks)(hw:∀ (g:Nat) (cs:Array Value) (fz:Nat×Nat),w.heap[g]?=some (Obj.cells cs 3 fz)→w'.heap[g]?=w.heap[g]?):IntsIn w' v ks:=by
 rcases h with h|⟨g,cap,cs,fz,hne,rfl,hb,hc⟩
 ·exact .inl h
 ·have e:=hw g cs fz hb;exact .inr ⟨g,cap,cs,fz,hne,rfl,e.trans hb,fun j k hj=>by rw [World.cell?_of_block (a:=⟨g,j,none⟩) e];exact hc j k hj⟩
structure N14 where
 kind:Int
 name:ByteArray
 neg:Bool
 kids:List Nat
 kv:Value
abbrev N14.cells (n:N14):List Value:=[.int .i64 n.kind,.string n.name,.bool n.neg,n.kv]
def flat14 (l:List N14):List Value:=(l.map N14.cells).flatten
structure R14 where
 at_:Nat
 it:Nat
 dp:Nat
 bad:Int
 ns:List N14
def box14 (s:ByteArray)(r:R14)(v:Value):Array Value:=#[.string s,.int .i64 r.at_,.int .i64 r.it,.int .i64 r.dp,.int .i64 r.bad,v]
structure RdAt (w:World)(M B:Nat)(s:ByteArray)(r:R14)(v:Value):Prop where
 box:w.heap[M]?=some (.cells (box14 s r v) 171 (0,0))
 bM:B≤M
 row:w.ownsRow B 223 4 v r.ns.length (flat14 r.ns)
 kids:∀ n∈r.ns,IntsIn w n.kv n.kids
structure K14 (B M:Nat)(w w':World):Prop where
 below:Below B w w'
 kept:∀ (b:Nat) (cs:Array Value) (T:TypeId) (fz:Nat×Nat),w.heap[b]?=some (Obj.cells cs T fz)→b≠M→T≠223→w'.heap[b]?=w.heap[b]?
theorem K14.refl (B M:Nat)(w:World):K14 B M w w:=⟨Below.refl B w,fun _ _ _ _ _ _ _=>rfl⟩
theorem K14.trans {B M:Nat}{w w1 w2:World}(h:K14 B M w w1)(k:K14 B M w1 w2):K14 B M w w2:=
 ⟨h.below.trans k.below,fun b cs T fz hb hn hT=>by
  have e:=h.kept b cs T fz hb hn hT;exact (k.kept b cs T fz (e.trans hb) hn hT).trans e⟩
theorem K14.of_below {B M:Nat}{w w':World}(h:Below w.heap.size w w')(hB:B≤w.heap.size):K14 B M w w':=
 ⟨h.mono hB,fun b _ _ _ hb _ _=>h.block b (Array.getElem?_eq_some_iff.1 hb).1⟩
theorem K14.qt {B M:Nat}{w w':World}(h:Qt w w'):K14 B M w w':=
 ⟨h.below B,fun b _ _ _ hb _ _=>(h.below w.heap.size).block b (Array.getElem?_eq_some_iff.1 hb).1⟩
theorem K14.setM {B M:Nat}{w w':World}(h:K14 B M w w')(hB:B≤M)(i:Nat)(v:Value):K14 B M w (w'.setCell ⟨M,i,none⟩ v):=
 ⟨h.below.setCell hB v,fun b cs T fz hb hn hT=>by
  rw [← h.kept b cs T fz hb hn hT];simp only [World.setCell];rw [Array.getElem?_modify,if_neg (fun e=>hn e.symm)]⟩
theorem K14.grown {B M:Nat}{w w1 w2:World}{v:Value}{n:Nat}{xs:List Value}(h:K14 B M w w1)(ho:w1.ownsRow B 223 4 v n xs)(hB:B≤w1.heap.size)(hg:w1.grownBy w2 v.ownBlock):K14 B M w w2:=
 ⟨h.below.grown hg hB (fun k hk=>(ho.lt k hk).1),fun b cs T fz hb hn hT=>by
  have e:=h.kept b cs T fz hb hn hT;refine (hg.block b (Array.getElem?_eq_some_iff.1 (e.trans hb)).1 (fun hk=>?_)).trans e
  obtain ⟨c,fz2,h2⟩:=Lib.ownsRow_kind ho b hk.symm;rw [e,hb] at h2
  cases h2
  exact hT rfl⟩
theorem K14.ints {B M:Nat}{w w':World}(h:K14 B M w w')(hM:∀ cs fz,w.heap[M]?≠some (Obj.cells cs 3 fz)){v:Value}{ks:List Nat}(hi:IntsIn w v ks):IntsIn w' v ks:=
 hi.kept fun g cs fz hg=>h.kept g cs _ fz hg (fun e=>hM cs fz (e▸hg)) (by decide)
section
variable {w:World} {M B:Nat} {s:ByteArray} {r:R14} {v:Value}
theorem RdAt.lt (h:RdAt w M B s r v):M<w.heap.size:=(Array.getElem?_eq_some_iff.1 h.box).1
theorem RdAt.free (h:RdAt w M B s r v)(i:Nat):w.frozen? ⟨M,i,none⟩=false:=by simp [World.frozen?,h.box]
theorem RdAt.noint (h:RdAt w M B s r v)(cs:Array Value)(fz:Nat×Nat):w.heap[M]?≠some (Obj.cells cs 3 fz):=by
 rw [h.box];intro e;simp at e
theorem RdAt.ne (h:RdAt w M B s r v):v.ownBlock≠some M:=fun e=>by
 obtain ⟨c,fz,hb⟩:=Lib.ownsRow_kind h.row M e;rw [h.box] at hb;simp at hb
theorem RdAt.c0 (h:RdAt w M B s r v):w.cell? ⟨M,0,none⟩=some (.string s):=by have:=cell_of_row w M 0 _ _ (0,0) h.box;simpa [box14] using this
theorem RdAt.c1 (h:RdAt w M B s r v):w.cell? ⟨M,1,none⟩=some (.int .i64 r.at_):=by have:=cell_of_row w M 1 _ _ (0,0) h.box;simpa [box14] using this
theorem RdAt.c2 (h:RdAt w M B s r v):w.cell? ⟨M,2,none⟩=some (.int .i64 r.it):=by have:=cell_of_row w M 2 _ _ (0,0) h.box;simpa [box14] using this
theorem RdAt.c3 (h:RdAt w M B s r v):w.cell? ⟨M,3,none⟩=some (.int .i64 r.dp):=by have:=cell_of_row w M 3 _ _ (0,0) h.box;simpa [box14] using this
theorem RdAt.c4 (h:RdAt w M B s r v):w.cell? ⟨M,4,none⟩=some (.int .i64 r.bad):=by have:=cell_of_row w M 4 _ _ (0,0) h.box;simpa [box14] using this
theorem RdAt.c5 (h:RdAt w M B s r v):w.cell? ⟨M,5,none⟩=some v:=by have:=cell_of_row w M 5 _ _ (0,0) h.box;simpa [box14] using this
theorem RdAt.set (h:RdAt w M B s r v){i:Nat}{u:Value}{r':R14}(hb:(box14 s r v).setIfInBounds i u=box14 s r' v)(hn:r'.ns=r.ns):RdAt (w.setCell ⟨M,i,none⟩ u) M B s r' v where
 box:=by
  have:=h.box;simp only [World.setCell,Array.getElem?_modify,this,if_pos rfl,Option.map_some];rw [← hb];rfl
 bM:=h.bM
 row:=by rw [hn];exact ownsRow_setCell_other h.row h.ne _
 kids:=by
  rw [hn]
  exact fun n hn=>(h.kids n hn).kept fun g cs fz hg=>by
   simp only [World.setCell];rw [Array.getElem?_modify,if_neg (fun e:M=g=>h.noint cs fz (by rw [e];exact hg))]
theorem RdAt.setAt (h:RdAt w M B s r v)(i:Nat):RdAt (w.setCell ⟨M,1,none⟩ (.int .i64 i)) M B s { r with at_:=i } v:=h.set rfl rfl
theorem RdAt.setIt (h:RdAt w M B s r v)(i:Nat):RdAt (w.setCell ⟨M,2,none⟩ (.int .i64 i)) M B s { r with it:=i } v:=h.set rfl rfl
theorem RdAt.setDp (h:RdAt w M B s r v)(i:Nat):RdAt (w.setCell ⟨M,3,none⟩ (.int .i64 i)) M B s { r with dp:=i } v:=h.set rfl rfl
theorem RdAt.setBad (h:RdAt w M B s r v)(i:Int):RdAt (w.setCell ⟨M,4,none⟩ (.int .i64 i)) M B s { r with bad:=i } v:=h.set rfl rfl
theorem RdAt.up (h:RdAt w M B s r v){w':World}(hb:Below w.heap.size w w'):RdAt w' M B s r v where
 box:=(hb.block M h.lt).trans h.box
 bM:=h.bM
 row:=own_below h.row hb
 kids:=fun n hn=>(h.kids n hn).kept fun g cs fz hg=>hb.block g (Array.getElem?_eq_some_iff.1 hg).1
theorem RdAt.qt (h:RdAt w M B s r v){w':World}(hq:Qt w w'):RdAt w' M B s r v:=h.up (hq.below _)
theorem RdAt.setNs (h:RdAt w M B s r v){w1:World}{v':Value}{xs:List N14}(hg:w.grownBy w1 v.ownBlock)(ho:w1.ownsRow B 223 4 v' xs.length (flat14 xs))
  (hk:∀ n∈xs,IntsIn w1 n.kv n.kids):RdAt (w1.setCell ⟨M,5,none⟩ v') M B s { r with ns:=xs } v':=by
 have hb:w1.heap[M]?=some (.cells (box14 s r v) 171 (0,0)):=(hg.block M h.lt (fun e=>h.ne e.symm)).trans h.box
 refine ⟨?_,h.bM,ownsRow_setCell_other ho (fun e=>?_) _,fun n hn=>(hk n hn).kept fun g cs fz hg=>?_⟩
 ·simp only [World.setCell,Array.getElem?_modify,hb,if_pos rfl,Option.map_some];rfl
 ·obtain ⟨c,fz,h2⟩:=Lib.ownsRow_kind ho M e;rw [hb] at h2;simp at h2
 ·simp only [World.setCell];rw [Array.getElem?_modify,if_neg (fun e=>by rw [← e,hb] at hg;simp at hg)]
end
def Post14 (w:World)(M B:Nat)(s:ByteArray)(r:R14)(e:Ending)(w':World):Prop:=e=.returned (.tuple #[])∧K14 B M w w'∧∃ v,RdAt w' M B s r v
def R14.refuse (r:R14)(i:Nat):R14:=if r.bad<0 then { r with bad:=i } else r
def R14.item (r:R14)(i:Nat):R14:=if 48≤r.it then { r.refuse i with it:=r.it+1 } else { r with it:=r.it+1 }
attribute [local go_sem ↓] Go.wp_at_zero Go.wp_at_succ
theorem d_letter (n:Nat)(w:World):Calls Tryz.prog 185 #[.int .u8 n] w fun e w'=>e=.returned (.bool (letterN n))∧w=w':=by
 go_enter Tryz.func185,Tryz.ntmps185;go_wp2
 all_goals go_ret
 all_goals (refine ⟨ret_bool ?_,rfl⟩;rw [Bool.eq_iff_iff];simp [letterN];omega)
theorem d_digit (n:Nat)(w:World):Calls Tryz.prog 226 #[.int .u8 n] w fun e w'=>e=.returned (.bool (digitN n))∧w=w':=by
 go_enter Tryz.func226,Tryz.ntmps226;go_wp2
 all_goals go_ret
 all_goals (refine ⟨ret_bool ?_,rfl⟩;rw [Bool.eq_iff_iff];simp [digitN];omega)
theorem d_refuse {w:World}{M B:Nat}{s:ByteArray}{r:R14}{v:Value}(P:RdAt w M B s r v)(i:Nat) :
  Calls Tryz.prog 108 #[.pointer (some ⟨M,0,none⟩),.int .i64 i] w fun e w'=>Post14 w M B s (r.refuse i) e w':=by
 have q4:=P.c4;have f4:=P.free 4
 by_cases hb:r.bad<0
 ·have H:=Hi (show r.refuse i={ r with bad:=i } by unfold R14.refuse;rw [if_pos hb])
  have hP:=Hi P;clear P;go_enter Tryz.func108,Tryz.ntmps108;go_wp2_with fail;go_end0;rw [H.out];exact ⟨rfl,(K14.refl B M w).setM hP.out.bM _ _,v,hP.out.setBad i⟩
 ·have H:=Hi (show r.refuse i=r by unfold R14.refuse;rw [if_neg hb])
  have hP:=Hi P;clear P;go_enter Tryz.func108,Tryz.ntmps108;go_wp2_with fail;go_end0;rw [H.out];exact ⟨rfl,K14.refl B M w,v,hP.out⟩
theorem d_item {w:World}{M B:Nat}{s:ByteArray}{r:R14}{v:Value}(P:RdAt w M B s r v)(i:Nat)(hi:r.it≤1000) :
  Calls Tryz.prog 139 #[.pointer (some ⟨M,0,none⟩),.int .i64 i] w fun e w'=>Post14 w M B s (r.item i) e w':=by
 have q2:=P.c2;have f2:=P.free 2;have bw:IntKind.i64.wrap ((r.it:Int)+1)=(r.it:Int)+1:=IntWalk.i64_in _ (by omega)
 by_cases h48:48≤r.it
 ·have H:=Hi (show r.item i={ r.refuse i with it:=r.it+1 } by unfold R14.item;rw [if_pos h48])
  have b48:(r.it:Int)≥48:=by omega
  have c:=Hi (d_refuse P i);have hf:(r.refuse i).it=r.it:=by unfold R14.refuse;split<;>rfl
  clear P h48;go_enter Tryz.func139,Tryz.ntmps139;go_wp2_with fail;refine c.out.mono ?_;rintro e w1 ⟨rfl,hb,v1,P1⟩;have r2:=P1.c2;have g2:=P1.free 2;rw [hf] at r2;have hP:=Hi P1;clear P1 q2 f2;go_wp2_with fail;go_end0;rw [H.out];exact ⟨rfl,hb.setM hP.out.bM _ _,v1,by have:=hP.out.setIt (r.it+1);exact this⟩
 ·have H:=Hi (show r.item i={ r with it:=r.it+1 } by unfold R14.item;rw [if_neg h48])
  have b48:¬ (r.it:Int)≥48:=by omega
  have hP:=Hi P;clear P h48;go_enter Tryz.func139,Tryz.ntmps139;go_wp2_with fail;go_end0;rw [H.out];exact ⟨rfl,(K14.refl B M w).setM hP.out.bM _ _,v,by have:=hP.out.setIt (r.it+1);exact this⟩
end Go.Proofs.YtjokciofeicdkaaGreatDoor
namespace Go.Proofs.YtjokciofeicdkaaGreatDoor
open Go.RowKit
attribute [local go_sem ↓] Go.wp_at_zero Go.wp_at_succ
theorem letL_at (s:ByteArray)(i:Nat)(h:i<s.size):letL ((bs s).drop i)=letterN s[i].toNat:=by rw [bs_drop s i h];rfl
theorem letL_end (s:ByteArray)(i:Nat)(h:¬ i<s.size):letL ((bs s).drop i)=false:=by rw [bs_drop_end s i h];rfl
theorem d_letterAt {w:World}{M B:Nat}{s:ByteArray}{r:R14}{v:Value}(P:RdAt w M B s r v)(i:Nat)(hi:i≤1000000) :
  Calls Tryz.prog 187 #[.pointer (some ⟨M,0,none⟩),.int .i64 i] w fun e w'=>e=.returned (.bool (letL ((bs s).drop i)))∧w=w':=by
 have q0:=P.c0;have cl:=Hi (fun (n:Nat) (w:World)=>d_letter n w)
 clear P
 by_cases h:i<s.size
 ·have H:=Hi (letL_at s i h);have b1:(i:Int)<(s.size:Int):=by omega
  go_enter Tryz.func187,Tryz.ntmps187;go_wp2_with (go_at_call 185;refine (cl.out _ _).mono ?_;rintro e w' ⟨rfl,rfl⟩);go_ret;exact ⟨by rw [H.out];rfl,rfl⟩
 ·have H:=Hi (letL_end s i h);have b1:¬ (i:Int)<(s.size:Int):=by omega
  go_enter Tryz.func187,Tryz.ntmps187;go_wp2_with fail;go_ret;exact ⟨by rw [H.out];rfl,rfl⟩
theorem d_run {w:World}{M B:Nat}{s:ByteArray}{r:R14}{v:Value}(P:RdAt w M B s r v)(i:Nat)(hi:i≤s.size)(hs:s.size≤1000000) :
  Calls Tryz.prog 210 #[.pointer (some ⟨M,0,none⟩),.int .i64 i] w fun e w'=>e=.returned (.int .i64 (runE s i:Nat))∧w=w':=by
 have q0:=P.c0;have cl:=Hi (fun (n:Nat) (w:World)=>d_letter n w)
 have cd:=Hi (fun (n:Nat) (w:World)=>d_digit n w)
 clear P;go_enter Tryz.func210,Tryz.ntmps210;go_wp2_with fail
 go_loop [1] (fun a=>∃ m:Nat,m≤s.size∧a=.int .i64 m∧Hid (runE s i=m+wordLen ((bs s).drop m))) (fun a=>s.size-(intOf a).toNat)
 case atStart=>exact ⟨i,hi,rfl,Hi rfl⟩
 case round=>
  obtain ⟨m,hm,rfl,hR⟩:=hrel
  by_cases hlt:m<s.size
  ·have hd:=bs_drop s m hlt;have b1:(m:Int)<(s.size:Int):=by omega
   cases hL:letterN s[m].toNat
   ·have c1:=Hi (show ∀ w,Calls Tryz.prog 185 #[.int .u8 s[m].toNat] w fun e w'=>e=.returned (.bool false)∧w=w' from fun w=>hL▸cl.out _ w)
    cases hD:digitN s[m].toNat
    ·have hR2:=Hi (hR.out.trans (show m+wordLen ((bs s).drop m)=m by
      rw [hd,wordLen,if_neg (by show ¬ (letterN s[m].toNat || digitN s[m].toNat)=true;rw [hL,hD];simp)];rfl))
     have c2:=Hi (show ∀ w,Calls Tryz.prog 226 #[.int .u8 s[m].toNat] w fun e w'=>e=.returned (.bool false)∧w=w' from fun w=>hD▸cd.out _ w)
     clear cl cd hR hd hL hD;go_wp2_with (first|(go_at_call 185;refine (c1.out _).mono ?_;rintro e w' ⟨rfl,rfl⟩)|(go_at_call 226;refine (c2.out _).mono ?_;rintro e w' ⟨rfl,rfl⟩))
     go_ret;exact ⟨by rw [hR2.out];rfl,rfl⟩
    ·have hR2:=Hi (hR.out.trans (show m+wordLen ((bs s).drop m)=(m+1)+wordLen ((bs s).drop (m+1)) by
      rw [hd,wordLen,if_pos (by show (letterN s[m].toNat || digitN s[m].toNat)=true;rw [hL,hD];rfl)];omega))
     have c2:=Hi (show ∀ w,Calls Tryz.prog 226 #[.int .u8 s[m].toNat] w fun e w'=>e=.returned (.bool true)∧w=w' from fun w=>hD▸cd.out _ w)
     clear hR hd hL hD;go_wp2_with (first|(go_at_call 185;refine (c1.out _).mono ?_;rintro e w' ⟨rfl,rfl⟩)|(go_at_call 226;refine (c2.out _).mono ?_;rintro e w' ⟨rfl,rfl⟩))
     go_round
     case rel=>exact ⟨m+1,by omega,by go_num,hR2⟩
     case measure=>simp [intOf];omega
   ·have c1:=Hi (show ∀ w,Calls Tryz.prog 185 #[.int .u8 s[m].toNat] w fun e w'=>e=.returned (.bool true)∧w=w' from fun w=>hL▸cl.out _ w)
    have hR2:=Hi (hR.out.trans (show m+wordLen ((bs s).drop m)=(m+1)+wordLen ((bs s).drop (m+1)) by
     rw [hd,wordLen,if_pos (by show (letterN s[m].toNat || digitN s[m].toNat)=true;rw [hL];rfl)];omega))
    clear hR hd hL;go_wp2_with (go_at_call 185;refine (c1.out _).mono ?_;rintro e w' ⟨rfl,rfl⟩)
    go_round
    case rel=>exact ⟨m+1,by omega,by go_num,hR2⟩
    case measure=>simp [intOf];omega
  ·have hR2:=Hi (hR.out.trans (show m+wordLen ((bs s).drop m)=m by rw [bs_drop_end s m hlt];rfl))
   have b1:¬ (m:Int)<(s.size:Int):=by omega
   go_wp2_with fail;go_ret;exact ⟨by rw [hR2.out];rfl,rfl⟩
def blankLen:Bytes→Nat
 | []=>0
 | c::r=>if c.toNat=32 then blankLen r+1 else 0
theorem peek_drop:∀ l:Bytes,peekS l=l.drop (blankLen l)
 | []=>rfl
 | c::r=>by
   unfold peekS blankLen;rw [List.dropWhile_cons]
   by_cases h:c.toNat=32
   ·rw [if_pos (by rw [h];rfl),if_pos h];exact peek_drop r
   ·rw [if_neg (by simpa using h),if_neg h];rfl
theorem blankLen_le:∀ l:Bytes,blankLen l≤l.length
 | []=>Nat.le_refl _
 | c::r=>by have:=blankLen_le r;unfold blankLen;split<;>simp<;>omega
def headN (l:Bytes):Nat:=match l with
 | []=>0
 | c::_=>c.toNat
def R14.peek (s:ByteArray)(r:R14):R14:={ r with at_:=r.at_+blankLen ((bs s).drop r.at_) }
theorem peek14 (s:ByteArray)(r:R14):(bs s).drop (r.peek s).at_=peekS ((bs s).drop r.at_):=by
 rw [peek_drop,List.drop_drop];rfl
theorem peek14_le (s:ByteArray)(r:R14)(h:r.at_≤s.size):r.at_≤(r.peek s).at_∧(r.peek s).at_≤s.size:=by
 have:=blankLen_le ((bs s).drop r.at_);rw [List.length_drop,bs_length] at this;unfold R14.peek;dsimp only;omega
def atOf14 (M:Nat)(w:World):Nat:=(intOf ((w.cell? ⟨M,1,none⟩).getD undef)).toNat
theorem RdAt.atOf {w:World}{M B:Nat}{s:ByteArray}{r:R14}{v:Value}(P:RdAt w M B s r v):atOf14 M w=r.at_:=by
 unfold atOf14;rw [P.c1];rfl
theorem d_peek {w:World}{M B:Nat}{s:ByteArray}{r:R14}{v:Value}(P:RdAt w M B s r v)(hi:r.at_≤1000000)(hs:s.size≤1000000) :
  Calls Tryz.prog 138 #[.pointer (some ⟨M,0,none⟩)] w fun e w'=>e=.returned (.int .u8 (headN (peekS ((bs s).drop r.at_)):Nat))∧K14 B M w w'∧RdAt w' M B s (r.peek s) v:=by
 have hP:=Hi P;clear P;go_enter Tryz.func138,Tryz.ntmps138;go_wp2_with fail
 go_loopw [] (fun wr=>∃ m:Nat,m≤1000000∧Hid (RdAt wr M B s { r with at_:=m } v)∧Hid (m+blankLen ((bs s).drop m)=r.at_+blankLen ((bs s).drop r.at_))∧Hid (K14 B M w wr)) (fun wr=>s.size-atOf14 M wr)
 case atStart=>exact ⟨r.at_,hi,hP,Hi rfl,Hi (K14.refl _ _ _)⟩
 case round=>
  obtain ⟨m,hm,hQ,hR,hK⟩:=hrel;obtain ⟨wq,rfl⟩:∃ wq,wq=wr:=⟨_,rfl⟩
  have q0:=hQ.out.c0;have q1:wq.cell? ⟨M,1,none⟩=some (.int .i64 m):=hQ.out.c1;have f1:=hQ.out.free 1;have hmu:=Hi (show atOf14 M wq=m from hQ.out.atOf)
  have bw:=wS m (by omega)
  by_cases hlt:m<s.size
  ·have hd:=bs_drop s m hlt;have b1:(m:Int)<(s.size:Int):=by omega
   have b0:(0:Int)≤(m:Int):=by omega
   by_cases h32:s[m].toNat=32
   ·have d32:((s[m].toNat:Int) == 32)=true:=by rw [h32];rfl
    have hR2:=Hi ((show m+1+blankLen ((bs s).drop (m+1))=m+blankLen ((bs s).drop m) by
     rw [hd,blankLen,if_pos h32];omega).trans hR.out)
    clear hR hd h32 hP;go_wp2_with fail;go_quiet (fail);go_wp2_with fail
    exact ⟨⟨m+1,by omega,Hi ((hQ.out.qt (Qt.self wq _)).setAt (m+1)),hR2,Hi ((hK.out.trans (K14.qt (Qt.self wq _))).setM hQ.out.bM 1 (.int .i64 (m+1:Nat)))⟩,by
     rw [hmu.out];refine Nat.lt_of_le_of_lt (Nat.le_of_eq (congrArg (s.size - ·) ((hQ.out.qt (Qt.self wq _)).setAt (m+1)).atOf)) ?_;show s.size-(m+1)<_;omega⟩
   ·have d32:((s[m].toNat:Int) == 32)=false:=by rw [beq_eq_false_iff_ne];omega
    have hb:blankLen ((bs s).drop m)=0:=by rw [hd,blankLen,if_neg h32]
    have hR2:=Hi (show r.at_+blankLen ((bs s).drop r.at_)=m by have:=hR.out;omega)
    have hH:=Hi (show headN (peekS ((bs s).drop r.at_))=s[m].toNat by
     rw [peek_drop,List.drop_drop,hR2.out,hd];rfl)
    clear hR hd h32 hP;go_wp2_with fail
    repeat (go_quiet (fail);go_wp2_with fail)
    go_ret;refine ⟨by rw [hH.out];rfl,hK.out.trans (K14.qt ((Qt.self wq _).trans ((Qt.self _ _).trans (Qt.self _ _)))),?_⟩
    have h2:=hR2.out;unfold R14.peek;rw [h2];exact hQ.out.qt ((Qt.self wq _).trans ((Qt.self _ _).trans (Qt.self _ _)))
  ·have b1:¬ (m:Int)<(s.size:Int):=by omega
   have hb:blankLen ((bs s).drop m)=0:=by rw [bs_drop_end s m hlt];rfl
   have hR2:=Hi (show r.at_+blankLen ((bs s).drop r.at_)=m by have:=hR.out;omega)
   have hH:=Hi (show headN (peekS ((bs s).drop r.at_))=0 by
    rw [peek_drop,List.drop_drop,hR2.out,bs_drop_end s m hlt];rfl)
   clear hR hP;go_wp2_with fail
   repeat (go_quiet (fail);go_wp2_with fail)
   go_ret;refine ⟨by rw [hH.out];rfl,hK.out.trans (K14.qt ((Qt.self wq _).trans (Qt.self _ _))),?_⟩
   have h2:=hR2.out;unfold R14.peek;rw [h2];exact hQ.out.qt ((Qt.self wq _).trans (Qt.self _ _))
theorem n14_info:(Tryz.prog.info? 223).map (fun i=>(i.zero,i.size,i.bytes))=some (some (.agg #[.int .i64 0,.string ByteArray.empty,.bool false,.slice none 0 0]),4,56):=by kernel_rfl
theorem int_info:(Tryz.prog.info? 3).map (fun i=>(i.zero,i.size,i.bytes))=some (some (.int .i64 0),1,8):=by kernel_rfl
theorem flat14_snoc (l:List N14)(x:N14):flat14 (l++[x])=flat14 l++x.cells:=by simp [flat14]
theorem IntsIn.shape {w:World}{v:Value}{ks:List Nat}(h:IntsIn w v ks):∃ A m c,v=.slice A m c:=by
 rcases h with ⟨rfl,_⟩|⟨g,cap,cs,fz,_,rfl,_⟩<;>exact ⟨_,_,_,rfl⟩
def PostN (w:World)(M B:Nat)(s:ByteArray)(r:R14)(k:Nat)(e:Ending)(w':World):Prop:=e=.returned (.int .i64 k)∧K14 B M w w'∧∃ v,RdAt w' M B s r v
theorem d_node {w:World}{M B:Nat}{s:ByteArray}{r:R14}{v:Value}(P:RdAt w M B s r v)(k:Int)(nm:ByteArray)(ng:Bool)(ks:List Nat)(kv:Value)(hk:IntsIn w kv ks)(hn:r.ns.length≤100000) :
  Calls Tryz.prog 171 #[.pointer (some ⟨M,0,none⟩),.agg #[.int .i64 k,.string nm,.bool ng,kv]] w fun e w'=>PostN w M B s { r with ns:=r.ns++[⟨k,nm,ng,ks,kv⟩] } r.ns.length e w':=by
 obtain ⟨A,m,c,rfl⟩:=hk.shape;obtain ⟨i0,hi0,hz0,hz1,hz2⟩:=info_parts n14_info;have hi0:=Hi hi0;have hz0:=Hi hz0;have hz1:=Hi hz1;have hz2:=Hi hz2;have hlt:=P.lt;have hbt:Below w.heap.size w (w.alloc (.cells #[.int .i64 k,.string nm,.bool ng,.slice A m c] 223 (0,0))):=(Below.refl w.heap.size w).alloc (Nat.le_refl _) _;have Pt:=P.up hbt;have htb:(w.alloc (.cells #[.int .i64 k,.string nm,.bool ng,.slice A m c] 223 (0,0))).heap[w.heap.size]?=some (.cells #[.int .i64 k,.string nm,.bool ng,.slice A m c] 223 (0,0)):=heap_alloc_new w _;have hKt:K14 B M w (w.alloc (.cells #[.int .i64 k,.string nm,.bool ng,.slice A m c] 223 (0,0))):=K14.of_below hbt (by have:=P.bM;omega)
 have hkt:IntsIn (w.alloc (.cells #[.int .i64 k,.string nm,.bool ng,.slice A m c] 223 (0,0))) (.slice A m c) ks:=hk.kept (fun g cs fz hg=>hbt.block g (Array.getElem?_eq_some_iff.1 hg).1)
 have htb:=Hi htb;have Pt:=Hi Pt;have hKt:=Hi hKt;have hkt:=Hi hkt;clear P hbt hk;go_enter Tryz.func171,Tryz.ntmps171;go_upto_region 1 with fail;generalize w.alloc (.cells #[.int .i64 k,.string nm,.bool ng,.slice A m c] 223)=wc at htb Pt hKt hkt ⊢;generalize w.heap.size=X at htb ⊢;have htb:=htb.out;have q3:=Pt.out.c5;have f3:=Pt.out.free 5;have hlt:=Pt.out.lt;have z0:=cell_of_row wc X 0 _ _ _ htb;have z1:=cell_of_row wc X 1 _ _ _ htb;have z2:=cell_of_row wc X 2 _ _ _ htb;have z3:=cell_of_row wc X 3 _ _ _ htb;simp only [List.getElem?_toArray,List.getElem?_cons_zero,List.getElem?_cons_succ] at z0 z1 z2 z3;have hba:Below wc.heap.size wc (wc.alloc (.cells #[.int .i64 k,.string nm,.bool ng,.slice A m c] 223 (0,0))):=(Below.refl _ wc).alloc (Nat.le_refl _) _;have Pa:=Pt.out.up hba;have q3a:=Pa.c5;have hO:=Hi Pt.out.row;have hBl:B≤wc.heap.size:=by have:=Pt.out.bM;omega
 have hba:=Hi hba;clear Pa htb
 go_region_law (refine step_append_lies _ (by rfl) (.tmp 9) (.tmp 11) _ (by rfl) B 223 i0 _ 4 56 Tryz.underlying138 hi0.out hz0.out hz1.out hz2.out rfl (by decide) v r.ns.length (flat14 r.ns) (by rfl) ((hO.out.alloc _).drew) ⟨wc.heap.size,0,none⟩ 1 1 [.int .i64 k,.string nm,.bool ng,.slice A m c] (by rfl) (by rfl) (World.news_of_block (heap_alloc_new wc _)) (oc _ rfl) (by decide) (by unfold maxLen;omega) (by omega) (by simp;omega) (wc.heap.size+1) (by simp) ?_;intro g' cap' w4 hown4 hg4 hat4 hlt4;have P1:=(Pt.out.up hba.out).qt (Qt.self _ 1);have q34:=hg4.cell P1.c5 (fun e=>P1.ne e.symm);have f34:=(hg4.frozen_far (a:=⟨M,5,none⟩) P1.lt (fun e=>P1.ne e.symm)).trans (P1.free 5);have hown5:=Hi hown4;have hg5:=Hi hg4;clear P1 hown4 hg4)
 all_goals (
  have P1:=(Pt.out.up hba.out).qt (Qt.self _ 1);have hK1:=hKt.out.trans (K14.of_below (M:=M) (hba.out.trans ((Qt.self _ 1).below _)) hBl);have hK2:K14 B M w w4:=hK1.grown P1.row (Nat.le_of_lt (Nat.lt_of_le_of_lt P1.bM P1.lt)) hg5.out;have hkk:K14 B M wc w4:=(K14.of_below (M:=M) (hba.out.trans ((Qt.self _ 1).below _)) hBl).grown P1.row (Nat.le_of_lt (Nat.lt_of_le_of_lt P1.bM P1.lt)) hg5.out
  have P4:=P1.setNs (xs:=r.ns++[⟨k,nm,ng,ks,.slice A m c⟩]) hg5.out (by rw [flat14_snoc,List.length_append];exact hown5.out) (fun n hn=>by
   rcases List.mem_append.1 hn with h|h
   ·exact hkk.ints Pt.out.noint (Pt.out.kids n h)
   ·rw [List.mem_singleton] at h;subst h;exact hkk.ints Pt.out.noint hkt.out)
  have hK3:=Hi (hK2.setM P1.bM 5 (.slice (some ⟨g',0,none⟩) (r.ns.length+1) cap'));clear hkk hK1 hK2 P1 q34 f34 hown5 hg5 q3 f3 q3a z0 z1 z2 z3 hO hba;have q5:(w4.setCell ⟨M,5,none⟩ (.slice (some ⟨g',0,none⟩) (r.ns.length+1) cap')).cell? ⟨M,5,none⟩=some (.slice (some ⟨g',0,none⟩) (r.ns.length+1) cap'):=by have:=P4.c5;exact this
  have hP4:=Hi P4;clear P4;generalize w4.setCell ⟨M,5,none⟩ (.slice (some ⟨g',0,none⟩) (r.ns.length+1) cap')=W at hK3 q5 hP4 ⊢;have bw:IntKind.i64.wrap (((r.ns.length:Int)+1)-1)=(r.ns.length:Int):=(congrArg _ (by omega)).trans (IntWalk.i64_in _ (by omega))
  have bw2:IntKind.i64.wrap (r.ns.length:Int)=(r.ns.length:Int):=IntWalk.i64_in _ (by omega)
  go_wp2_with fail;go_ret;exact ⟨by first|rfl|simp,hK3.out,_,hP4.out⟩)
def lay1 (kind:Int)(ns:List N14)(k:Nat):List Nat:=match ns[k]? with
 | some n=>if n.kind=kind then n.kids else [k]
 | none=>[k]
def laidS (kind:Int)(ns:List N14)(ks:List Nat):List Nat:=ks.flatMap (lay1 kind ns)
def intsV (l:List Nat):List Value:=l.map fun (k:Nat)=>.int .i64 k
theorem intsV_len (l:List Nat):(intsV l).length=l.length:=by simp [intsV]
theorem laid_take (kind:Int)(ns:List N14)(ks:List Nat)(i k:Nat)(h:ks[i]?=some k):laidS kind ns (ks.take (i+1))=laidS kind ns (ks.take i)++lay1 kind ns k:=by
 unfold laidS;rw [List.take_add_one,h,List.flatMap_append];simp
theorem laid_take_le (kind:Int)(ns:List N14)(ks:List Nat)(i:Nat):(laidS kind ns (ks.take i)).length≤(laidS kind ns ks).length:=by
 conv=>rhs;rw [← List.take_append_drop i ks]
 unfold laidS;rw [List.flatMap_append,List.length_append];omega
theorem flat14_at (l:List N14)(k:Nat)(t:N14)(h:l[k]?=some t)(j:Nat)(u:Value)(hj:t.cells[j]?=some u):(flat14 l)[k*4+j]?=some u:=by
 refine flatten_at 4 _ (fun c hc=>?_) k j t.cells u (by rw [List.getElem?_map,h];rfl) hj
 obtain ⟨t,_,rfl⟩:=List.mem_map.1 hc
 rfl
theorem ints_own {w:World}{base g cap:Nat}{ks:List Nat}(h:w.ownsRow base 3 1 (.slice (some ⟨g,0,none⟩) ks.length cap) ks.length (intsV ks))(hne:ks≠[]):IntsIn w (.slice (some ⟨g,0,none⟩) ks.length cap) ks:=by
 obtain ⟨c,fz,hb⟩:=Lib.ownsRow_kind h g rfl
 exact .inr ⟨g,cap,c,fz,hne,rfl,hb,fun j k hj=>by
  have hl:=(List.getElem?_eq_some_iff.1 hj).1;rw [h.cellAt _ (by omega)]
  unfold intsV;rw [List.getElem?_map,hj];rfl⟩
theorem ints_row {w:World}{base:Nat}{v:Value}{ks:List Nat}(h:w.ownsRow base 3 1 v ks.length (intsV ks))(hn:ks=[]→v=.slice none 0 0):IntsIn w v ks:=by
 cases hk:ks with
 | nil=>exact .inl ⟨hn hk,rfl⟩
 | cons a r=>
   obtain ⟨g,cap,rfl⟩:=Go.Joins.ownsRow_form h (by rw [hk];simp)
   rw [← hk];exact ints_own h (by rw [hk];simp)
def LaidPost (w:World)(ks:List Nat)(e:Ending)(w':World):Prop:=∃ v,e=.returned v∧w'.ownsRow w.heap.size 3 1 v ks.length (intsV ks)∧(ks=[]→v=.slice none 0 0)∧Below w.heap.size w w'
theorem d_laid {w:World}{M B:Nat}{s:ByteArray}{r:R14}{v:Value}(P:RdAt w M B s r v)(kind:Int){vl:Value}{ks:List Nat}(hl:IntsIn w vl ks)(hks:∀ k∈ks,k<r.ns.length)(hb:(laidS kind r.ns ks).length≤100000)(hb2:ks.length≤100000) :
  Calls Tryz.prog 170 #[.pointer (some ⟨M,0,none⟩),.int .i64 kind,vl] w fun e w'=>LaidPost w (laidS kind r.ns ks) e w':=by
 rcases hl with ⟨rfl,rfl⟩|⟨gl,cl,csl,fzl,hne,rfl,hgl,hcl⟩
 ·clear P hks hb;go_enter Tryz.func170,Tryz.ntmps170;go_wp2_with fail
  go_loopw [7,8] (fun a b wr=>a=.slice none 0 0∧b=.int .i64 0∧wr=w) (fun _ _ _=>0)
  case atStart=>exact ⟨rfl,rfl,rfl⟩
  case round=>
   obtain ⟨rfl,rfl,rfl⟩:=hrel;go_wp2_with fail;go_ret;exact ⟨_,rfl,⟨by simp [laidS,intsV],.inl ⟨rfl,rfl⟩⟩,fun _=>rfl,Below.refl _ _⟩
 obtain ⟨i0,hi0,hz0,hz1,hz2⟩:=info_parts int_info;have hi0:=Hi hi0;have hz0:=Hi hz0;have hz1:=Hi hz1;have hz2:=Hi hz2
 have hns:0<r.ns.length:=by
  cases ks with
  | nil=>exact absurd rfl hne
  | cons a t=>exact Nat.lt_of_le_of_lt (Nat.zero_le _) (hks a (by simp))
 obtain ⟨gn,cn,rfl⟩:=Go.Joins.ownsRow_form P.row hns;have hgl2:=(Array.getElem?_eq_some_iff.1 hgl).1;have hgn2:=(P.row.lt gn rfl).2;have hP:=Hi P;have hcl:=Hi hcl;have hks:=Hi hks;have hMl:=P.lt;clear P hgl hne hns;go_enter Tryz.func170,Tryz.ntmps170;go_wp2_with fail
 go_loopw [7,8] (fun a b wr=>∃ i:Nat,b=.int .i64 i∧i≤ks.length∧Hid (wr.ownsRow w.heap.size 3 1 a (laidS kind r.ns (ks.take i)).length (intsV (laidS kind r.ns (ks.take i))))∧(laidS kind r.ns (ks.take i)=[]→a=.slice none 0 0)∧Hid (Below w.heap.size w wr)) (fun _ b _=>ks.length-(intOf b).toNat)
 case atStart=>exact ⟨0,rfl,Nat.zero_le _,Hi ⟨by simp [laidS,intsV],.inl ⟨rfl,rfl⟩⟩,fun _=>rfl,Hi (Below.refl _ _)⟩
 case round=>
  obtain ⟨i,rfl,hi,hO,hnil,hbl⟩:=hrel;obtain ⟨wq,rfl⟩:∃ wq,wq=wr:=⟨_,rfl⟩
  by_cases hlt:i<ks.length
  ·have b1:(i:Int)<(ks.length:Int):=by omega
   have b0:(0:Int)≤(i:Int):=by omega
   have hkI:ks[i]?=some ks[i]:=List.getElem?_eq_getElem hlt;have hkm:=hks.out _ (List.getElem_mem hlt);generalize ks[i]=k at hkI hkm;have hnI:r.ns[k]?=some r.ns[k]:=List.getElem?_eq_getElem hkm;have hkd:=hP.out.kids _ (List.getElem_mem hkm);generalize r.ns[k]=n at hnI hkd;obtain ⟨kd,nm,ng,kks,kv⟩:=n;have hkd:IntsIn w kv kks:=hkd;have P1:=hP.out.up hbl.out;have q5:=P1.c5;have ek:wq.cell? ⟨gl,i,none⟩=some (.int .i64 k):=(hbl.out.cell (p:=⟨gl,i,none⟩) hgl2).trans (hcl.out i k hkI)
   have hrow:∀ (j:Nat) (u:Value),(N14.cells ⟨kd,nm,ng,kks,kv⟩)[j]?=some u→wq.cell? ⟨gn,k*4+j,none⟩=some u:=fun j u hj=>by
    have hj4:j<4:=(List.getElem?_eq_some_iff.1 hj).1;rw [P1.row.cellAt _ (by omega)]
    exact flat14_at r.ns k _ hnI j u hj
   have n0:wq.cell? ⟨gn,k*4,none⟩=some (.int .i64 kd):=hrow 0 _ rfl;have n1:wq.cell? ⟨gn,k*4+1,none⟩=some (.string nm):=hrow 1 _ rfl;have n2:wq.cell? ⟨gn,k*4+2,none⟩=some (.bool ng):=hrow 2 _ rfl;have n3:wq.cell? ⟨gn,k*4+3,none⟩=some kv:=hrow 3 _ rfl;have hl1:lay1 kind r.ns k=if kd=kind then kks else [k]:=by unfold lay1;rw [hnI]
   have hT:=Hi ((laid_take kind r.ns ks i k hkI).trans (congrArg _ hl1));have hTl:=laid_take_le kind r.ns ks (i+1);rw [hT.out,List.length_append] at hTl;have hTlh:=Hi hTl;clear hTl;have k1:(k:Int)<(r.ns.length:Int):=by omega
   have k0:(0:Int)≤(k:Int):=by omega
   have hszq:=hbl.out.size;have hMl2:M<wq.heap.size:=by omega
   have hgl3:gl<wq.heap.size:=by omega
   have hgn3:gn<wq.heap.size:=by omega
   have hkq:IntsIn wq kv kks:=hkd.kept (fun g cs fz hg=>hbl.out.block g (Array.getElem?_eq_some_iff.1 hg).1)
   have hkqh:=Hi hkq;clear hkq;obtain ⟨A,m,c,rfl⟩:=hkd.shape;clear hrow hkd hl1 hnI hkI P1;go_wp2_with fail
   go_region_held3 (fun W=>W.cell? ⟨M,5,none⟩=some (.slice (some ⟨gn,0,none⟩) r.ns.length cn)∧W.cell? ⟨gl,i,none⟩=some (.int .i64 k)∧W.cell? ⟨gn,k*4,none⟩=some (.int .i64 kd)∧W.cell? ⟨gn,k*4+1,none⟩=some (.string nm)∧W.cell? ⟨gn,k*4+2,none⟩=some (.bool ng)∧W.cell? ⟨gn,k*4+3,none⟩=some (.slice A m c)) (first|exact hHeld|go_keep|(refine ⟨?_,?_,?_,?_,?_,?_⟩<;>go_keep)) (fail)
   obtain ⟨W1,hW1⟩:∃ W1,(wq.alloc (.cells #[.int .i64 kd,.string nm,.bool ng,.slice A m c] 223)).drew=W1:=⟨_,rfl⟩
   have hb1:Below wq.heap.size wq W1:=by rw [← hW1];exact ((Below.refl _ wq).alloc (Nat.le_refl _) (.cells #[.int .i64 kd,.string nm,.bool ng,.slice A m c] 223)).trans ((Qt.self _ 1).below _)
   have htb:W1.heap[wq.heap.size]?=some (.cells #[.int .i64 kd,.string nm,.bool ng,.slice A m c] 223 (0,0)):=by rw [← hW1];exact heap_alloc_new wq _
   rw [hW1];have z0:=cell_of_row W1 wq.heap.size 0 _ _ _ htb;have z3:=cell_of_row W1 wq.heap.size 3 _ _ _ htb;simp only [List.getElem?_toArray,List.getElem?_cons_zero,List.getElem?_cons_succ] at z0 z3;have hO1:=Hi (own_below hO.out hb1);have hbl1:=Hi (hbl.out.trans (hb1.mono hbl.out.size));have hkq1:=hkqh.out.kept (fun g cs fz hg=>hb1.block g (Array.getElem?_eq_some_iff.1 hg).1)
   have ek1:W1.cell? ⟨gl,i,none⟩=some (.int .i64 k):=(hb1.cell (p:=⟨gl,i,none⟩) hgl3).trans ek;have hbs1:w.heap.size≤W1.heap.size:=Nat.le_trans hszq hb1.size;have bwi:=wS i (by omega)
   obtain ⟨L,hL⟩:∃ L,laidS kind r.ns (ks.take i)=L:=⟨_,rfl⟩
   rw [hL] at hO1 hT hnil;have hTl:=hTlh.out;rw [hL] at hTl;clear hTlh;clear hO hbl hb1 htb hW1 q5 ek n0 n1 n2 n3 hkd hkqh hL;generalize wq.heap.size=X at z0 z3 ⊢
   by_cases hkk:kd=kind
   ·have bk:(kd == kind)=true:=by rw [hkk];exact beq_self_eq_true _
    rw [if_pos hkk] at hTl;have hT2:=Hi (hT.out.trans (by rw [if_pos hkk]))
    have hTlg:=Hi hTl;clear hT hkk hTl;have hTl:=hTlg;rcases hkq1 with ⟨e1,rfl⟩|⟨g2,c2,cs2,fz2,hne2,e1,hb2,hc2⟩
    ·cases e1
     have hT3:=Hi (hT2.out.trans (List.append_nil L));go_wp2_with (at_builtin;refine wpList_append_own_none rfl (.tmp 30) (.tmp 32) _ rfl w.heap.size 3 i0 1 Tryz.underlying49 hi0.out u7 L.length (intsV L) rfl hO1.out rfl ?_)
     go_roundw
     case rel=>exact ⟨i+1,by first|rfl|go_num,hlt,Hi (by rw [hT3.out];exact hO1.out),by rw [hT3.out];exact hnil,hbl1⟩
     case measure=>simp [intOf];omega
    ·cases e1
     have hnews:∀ (j:Nat) (u:Value),(intsV kks)[j]?=some u→W1.cell? ((⟨g2,0,none⟩:Addr).add j)=some u:=fun j u hj=>by
      unfold intsV at hj;rw [List.getElem?_map] at hj
      cases hkj:kks[j]? with
      | none=>rw [hkj] at hj;cases hj
      | some y=>
        rw [hkj] at hj
        cases hj
        rw [show (⟨g2,0,none⟩:Addr).add j=⟨g2,j,none⟩ by unfold Addr.add;split<;>simp_all]
        exact hc2 j y hkj
     have hnews:=Hi hnews;have hpos:0<kks.length:=List.length_pos_iff.2 hne2;clear hc2 hb2 hne2;go_wp2_with (at_builtin;refine wpList_append_lies _ rfl (.tmp 30) (.tmp 32) _ rfl w.heap.size 3 i0 _ 1 8 Tryz.underlying49 hi0.out hz0.out hz1.out hz2.out rfl (by decide) u7 L.length (intsV L) rfl hO1.out ⟨g2,0,none⟩ kks.length _ (intsV kks) rfl (by rw [intsV_len];omega) hnews.out (by intro u hu;obtain ⟨y,_,rfl⟩:=List.mem_map.1 hu;rfl) hpos (by unfold maxLen;have:=hTl.out;omega) (by have:=hTl.out;omega) hbs1 W1.heap.size rfl ?_;intro g' cap' w4 hown4 hg4 hat4 hlt4;have hown5:=Hi hown4;have hg5:=Hi hg4;clear hown4 hg4)
     go_roundw
     case rel=>exact ⟨i+1,by first|rfl|go_num,hlt,Hi (by rw [hT2.out,List.length_append,show intsV (L++kks)=intsV L++intsV kks by simp [intsV]];exact hown5.out),(fun h=>by rw [hT2.out] at h;have h2:=(List.append_eq_nil_iff.1 h).2;rw [h2] at hpos;cases hpos),Hi (hbl1.out.grown hg5.out hbs1 (fun i hi=>(hO1.out.lt i hi).1))⟩
     case measure=>simp [intOf];omega
   ·have bk:(kd == kind)=false:=by rw [beq_eq_false_iff_ne];exact hkk
    rw [if_neg hkk] at hTl;have hT2:=Hi (hT.out.trans (by rw [if_neg hkk]))
    have hTl0:L.length+1≤100000:=Nat.le_trans hTl hb;clear hTl;have hTl:=hTl0;clear hTl0;have hTlg:=Hi hTl;clear hT hkk hkq1 hTl;have hTl:=hTlg;go_wp2_with (at_builtin;refine wpList_append_lies _ rfl (.tmp 34) (.tmp 39) _ rfl w.heap.size 3 i0 _ 1 8 Tryz.underlying49 hi0.out hz0.out hz1.out hz2.out rfl (by decide) u7 L.length (intsV L) rfl (hO1.out.alloc _) ⟨W1.heap.size,0,none⟩ 1 1 (intsV [k]) rfl rfl (World.news_of_block (heap_alloc_new W1 _)) (by intro u hu;obtain ⟨y,_,rfl⟩:=List.mem_map.1 hu;rfl) (by decide) (by unfold maxLen;have:=hTl.out;omega) (by have:=hTl.out;omega) (by simp;omega) (W1.heap.size+1) (by simp) ?_;intro g' cap' w4 hown4 hg4 hat4 hlt4;have hown5:=Hi hown4;have hg5:=Hi hg4;clear hown4 hg4)
    go_roundw
    case rel=>exact ⟨i+1,by first|rfl|go_num,hlt,Hi (by rw [hT2.out,List.length_append,show intsV (L++[k])=intsV L++intsV [k] by simp [intsV]];exact hown5.out),fun h=>by rw [hT2.out] at h;have:=congrArg List.length h;simp at this,Hi ((hbl1.out.alloc hbs1 _).grown hg5.out (by simp;omega) (fun i hi=>(hO1.out.lt i hi).1))⟩
    case measure=>simp [intOf];omega
  ·have b1:¬ (i:Int)<(ks.length:Int):=by omega
   have hik:i=ks.length:=by omega
   rw [hik,List.take_length] at hO hnil;have hnilh:=Hi hnil;clear hnil;go_wp2_with fail;go_ret;exact ⟨u7,rfl,hO.out,hnilh.out,hbl.out⟩
def NewN (N:Nat)(r r':R14):Prop:=∀ n∈r'.ns,n∈r.ns∨∀ g,n.kv.ownBlock=some g→N≤g
theorem NewN.refl {N:Nat}{r r':R14}(h:r'.ns=r.ns):NewN N r r':=fun n hn=>.inl (h▸hn)
theorem NewN.snoc {N:Nat}{r r':R14}{n:N14}(h:r'.ns=r.ns++[n])(hg:∀ g,n.kv.ownBlock=some g→N≤g):NewN N r r':=fun x hx=>by
 rw [h] at hx;rcases List.mem_append.1 hx with hx|hx
 ·exact .inl hx
 ·rw [List.mem_singleton] at hx;subst hx;exact .inr hg
theorem NewN.nil {N:Nat}{r r':R14}{n:N14}(h:r'.ns=r.ns++[n])(hv:n.kv=.slice none 0 0):NewN N r r':=NewN.snoc h fun g hg=>by rw [hv] at hg;cases hg
theorem NewN.trans {N N1:Nat}{r r1 r2:R14}(h:NewN N r r1)(k:NewN N1 r1 r2)(hN:N≤N1):NewN N r r2:=fun x hx=>by
 rcases k x hx with hx|hx
 ·exact h x hx
 ·exact .inr fun g hg=>Nat.le_trans hN (hx g hg)
theorem NewN.of_ns {N:Nat}{r r1 r2:R14}(h:NewN N r r1)(e:r2.ns=r1.ns):NewN N r r2:=fun x hx=>h x (e▸hx)
def PostW (w:World)(M B:Nat)(s:ByteArray)(r r':R14)(k:Nat)(e:Ending)(w':World):Prop:=e=.returned (.int .i64 k)∧K14 B M w w'∧NewN w.heap.size r r'∧∃ v,RdAt w' M B s r' v
structure NameR (s:ByteArray)(r r':R14)(k:Nat):Prop where
 k:k=r.ns.length
 ns:∃ n,r'.ns=r.ns++[n]∧n.kids=[]∧(n.kind=2∨n.kind=3)
 it:r'.it=r.it
 dp:r'.dp=r.dp
 le:r.at_≤r'.at_∧r'.at_≤s.size
 lt:letL ((bs s).drop r.at_)=true→r.at_<r'.at_
 none_:nameEnd ((bs s).drop r.at_)=none→0≤r'.bad
 some_:∀ q,nameEnd ((bs s).drop r.at_)=some q→r'.bad=r.bad∧(bs s).drop r'.at_=q
def dotB (s:ByteArray)(e:Nat):Bool:=match (bs s)[e]? with
 | some c=>c.toNat == 46 && letL ((bs s).drop (e+1))
 | none=>false
def optN (lg:Bool)(l:Bytes):Option Bytes:=if lg=true then none else some l
theorem runE_eq (s:ByteArray)(i:Nat):wordLen ((bs s).drop i)=runE s i-i:=by unfold runE;omega
theorem runE_dropb (s:ByteArray)(i:Nat):((bs s).drop i).drop (wordLen ((bs s).drop i))=(bs s).drop (runE s i):=by rw [List.drop_drop];rfl
theorem nameEnd_one (s:ByteArray)(i:Nat)(h:∀ hl:runE s i<s.size,s[runE s i].toNat=46→letL ((bs s).drop (runE s i+1))=false):nameEnd ((bs s).drop i)=optN (decide (24<runE s i-i)) ((bs s).drop (runE s i)):=by
 unfold nameEnd optN;rw [runE_dropb,runE_eq]
 by_cases hl:runE s i<s.size
 ·rw [bs_drop s _ hl];dsimp only
  rw [if_neg (by
   simp only [Bool.and_eq_true,beq_iff_eq];rintro ⟨h1,h2⟩;have:=h hl h1;rw [this] at h2;cases h2)]
  by_cases h24:24<runE s i-i
  ·rw [if_neg (by omega),if_pos (by simpa using h24)]
  ·rw [if_pos (by omega),if_neg (by simpa using h24)]
 ·rw [bs_drop_end s _ hl];dsimp only
  by_cases h24:24<runE s i-i
  ·rw [if_neg (by omega),if_pos (by simpa using h24)]
  ·rw [if_pos (by omega),if_neg (by simpa using h24)]
theorem nameEnd_two (s:ByteArray)(i:Nat)(hl:runE s i<s.size)(h46:s[runE s i].toNat=46)(hL:letL ((bs s).drop (runE s i+1))=true) :
  nameEnd ((bs s).drop i)=optN (decide (24<runE s i-i) || decide (24<runE s (runE s i+1)-(runE s i+1))) ((bs s).drop (runE s (runE s i+1))):=by
 unfold nameEnd optN;rw [runE_dropb,runE_eq,bs_drop s _ hl];dsimp only;rw [if_pos (by rw [h46,hL];rfl),runE_dropb,runE_eq]
 by_cases h1:24<runE s i-i
 ·rw [if_neg (by omega),decide_eq_true h1];rfl
 ·by_cases h2:24<runE s (runE s i+1)-(runE s i+1)
  ·rw [if_neg (by omega),decide_eq_true h2,Bool.or_true];rfl
  ·rw [if_pos (by omega),decide_eq_false h1,decide_eq_false h2];rfl
theorem d_name {w:World}{M B:Nat}{s:ByteArray}{r:R14}{v:Value}(P:RdAt w M B s r v)(ng:Bool)(ha:r.at_≤s.size)(hs:s.size≤300)(hn:r.ns.length≤100000) :
  Calls Tryz.prog 186 #[.pointer (some ⟨M,0,none⟩),.bool ng] w fun e w'=>∃ (k:Nat) (r':R14),NameR s r r' k∧PostW w M B s r r' k e w':=by
 have q0:=P.c0;have q1:=P.c1;have hP:=Hi P;have cr:=Hi (fun (i:Nat) (hi:i≤s.size)=>d_run P i hi (by omega))
 have cl:=Hi (fun (i:Nat) (hi:i≤1000000)=>d_letterAt P i hi)
 obtain ⟨l1,l2⟩:=runE_le s r.at_ ha;have cr1:=cr.out r.at_ ha;have h1:=nameEnd_one s r.at_;have h2:=nameEnd_two s r.at_
 have h3:letL ((bs s).drop r.at_)=true→r.at_<runE s r.at_:=fun hL=>by
  by_cases hlt:r.at_<s.size
  ·rw [letL_at s _ hlt] at hL;exact runE_in s _ hlt (by unfold wordN;rw [hL];rfl)
  ·rw [letL_end s _ hlt] at hL;cases hL
 generalize runE s r.at_=e1 at cr1 h1 h2 h3 l1 l2;have C1:=Hi cr1;have H1:=Hi h1;have H2:=Hi h2;have H3:=Hi h3;clear P h1 h2 h3 cr1;have bwe:=wS e1 (by omega)
 have bws:IntKind.i64.wrap ((e1:Int)-(r.at_:Int))=(e1:Int)-(r.at_:Int):=IntWalk.i64_in _ (by omega)
 go_enter Tryz.func186,Tryz.ntmps186;go_upto_region 5 with (go_at_call 210;refine C1.out.mono ?_;rintro e w' ⟨rfl,rfl⟩);have b1':IntKind.i64.wrap 0=0:=rfl
 go_cut [42] (fun v wx=>wx=w∧v=.bool (dotB s e1))
 case first=>
  by_cases hlt:e1<s.size
  ·have c1:(e1:Int)<(s.size:Int):=by omega
   have c0:(0:Int)≤(e1:Int):=by omega
   by_cases h46:s[e1].toNat=46
   ·have d46:((s[e1].toNat:Int) == 46)=true:=by rw [h46];rfl
    have Hd:=Hi (show dotB s e1=letL ((bs s).drop (e1+1)) by unfold dotB;rw [bs_at s _ hlt];simp [h46])
    clear h46;have c2:(e1:Int)+1≤1000000:=by omega
    go_wp2_with (go_at_call 187;refine (cl.out (e1+1) (by omega)).mono ?_;rintro e w' ⟨rfl,rfl⟩)
    go_meet;exact ⟨rfl,by rw [Hd.out]⟩
   ·have d46:((s[e1].toNat:Int) == 46)=false:=by rw [beq_eq_false_iff_ne];omega
    have Hd:=Hi (show dotB s e1=false by unfold dotB;rw [bs_at s _ hlt];simp [h46])
    clear h46;go_wp2_with fail;go_meet;exact ⟨rfl,by rw [Hd.out]⟩
  ·have c1:¬ (e1:Int)<(s.size:Int):=by omega
   have Hd:=Hi (show dotB s e1=false by unfold dotB;rw [show (bs s)[e1]?=none from List.getElem?_eq_none (by rw [bs_length];omega)])
   go_wp2_with fail;go_meet;exact ⟨rfl,by rw [Hd.out]⟩
 case rest=>
 obtain ⟨rfl,rfl⟩:=hcut;go_upto_if 42 with fail
 go_cut [6,7,8] (fun x y z wx=>wx=wc∧∃ (e2:Nat) (lg:Bool) (kd:Int),x=.int .i64 e2∧y=.bool lg∧z=.int .i64 kd∧Hid (nameEnd ((bs s).drop r.at_)=optN lg ((bs s).drop e2))∧e1≤e2∧e2≤s.size∧(kd=2∨kd=3))
 case first=>
  cases hd:dotB s e1
  ·have hH:=Hi (H1.out (fun hl h46=>by
    unfold dotB at hd;rw [bs_at s _ hl] at hd
    simpa [h46] using hd))
   clear hd;go_wp2_with fail;go_meet;exact ⟨rfl,e1,_,3,rfl,val_bool (by rw [Bool.eq_iff_iff];simp;omega),rfl,hH,Nat.le_refl _,l2,.inr rfl⟩
  ·have hx:∃ hl:e1<s.size,s[e1].toNat=46∧letL ((bs s).drop (e1+1))=true:=by
    unfold dotB at hd
    by_cases hl:e1<s.size
    ·rw [bs_at s _ hl] at hd;simp only [Bool.and_eq_true,beq_iff_eq] at hd;exact ⟨hl,hd⟩
    ·rw [show (bs s)[e1]?=none from List.getElem?_eq_none (by rw [bs_length];omega)] at hd;cases hd
   obtain ⟨hl,h46,hL⟩:=hx;have hH:=H2.out hl h46 hL;have cr2:=cr.out (e1+1) (by omega)
   obtain ⟨k1,k2⟩:=runE_le s (e1+1) (by omega)
   generalize runE s (e1+1)=e2 at hH cr2 k1 k2;have bws2:IntKind.i64.wrap ((e2:Int)-((e1:Int)+1))=(e2:Int)-((e1:Int)+1):=IntWalk.i64_in _ (by omega)
   have cr2:Calls Tryz.prog 210 #[.pointer (some ⟨M,0,none⟩),.int .i64 ((e1:Int)+1)] wc fun e w'=>e=.returned (.int .i64 (e2:Nat))∧wc=w':=cr2
   have C2:=Hi cr2;have hHH:=Hi hH;clear hd hL h46 hH cr2;go_wp2_with (go_at_call 210;refine C2.out.mono ?_;rintro e w' ⟨rfl,rfl⟩)
   all_goals (
    go_meet;exact ⟨rfl,e2,_,2,rfl,val_bool (by clear bws2 bwe bws;rw [Bool.eq_iff_iff];simp;omega),rfl,hHH,by omega,k2,.inl rfl⟩)
 case rest=>
 obtain ⟨rfl,e2,lg,kd,rfl,rfl,rfl,hH,h12,h2s,hkd⟩:=hcut;have g1:(r.at_:Int)≤(e2:Int):=by omega
 have g2:(e2:Int)≤(s.size:Int):=by omega
 have g3:(0:Int)≤(r.at_:Int):=by omega
 have g4:(0:Int)≤(e2:Int):=by omega
 clear q0 q1 cr cl C1 H1 H2 bwe bws b1'
 cases lg with
 | true=>
   have hrn:(r.refuse r.at_).ns=r.ns:=by unfold R14.refuse;split<;>rfl
   have hri:(r.refuse r.at_).it=r.it∧(r.refuse r.at_).dp=r.dp:=by unfold R14.refuse;split<;>exact ⟨rfl,rfl⟩
   have hrb:0≤(r.refuse r.at_).bad:=by
    unfold R14.refuse;split
    ·show (0:Int)≤(r.at_:Int);omega
    ·omega
   have cR:=Hi (d_refuse hP.out r.at_);go_wp2_with fail;refine cR.out.mono ?_;rintro e w1 ⟨rfl,K1,v1,P1⟩;have hP1:=Hi P1;have K1:=Hi K1;clear P1 cR hP;have s1:=hP1.out.c1;have f1:=hP1.out.free 1;go_upto_region 13 with fail;have P2:=hP1.out.setAt e2;have K2:=Hi (K1.out.setM hP1.out.bM 1 (.int .i64 (e2:Nat)));clear hP1 s1 f1;generalize w1.setCell ⟨M,1,none⟩ (.int .i64 (e2:Nat))=W2 at P2 K2 ⊢;have q0:=P2.c0;have cN:=Hi (d_node P2 kd (s.extract r.at_ e2) ng [] (.slice none 0 0) (.inl ⟨rfl,rfl⟩) (show (r.refuse r.at_).ns.length≤100000 by rw [hrn];exact hn))
   clear P2;go_wp2_with fail;refine cN.out.mono ?_;rintro e w3 ⟨rfl,K3,v3,P3⟩;have hP3:=Hi P3;have K3:=Hi (K2.out.trans K3);clear P3 cN K2 q0;go_wp2_with fail;go_ret;refine ⟨_,{ r.refuse r.at_ with at_:=e2,ns:=(r.refuse r.at_).ns++[⟨kd,s.extract r.at_ e2,ng,[],.slice none 0 0⟩] },⟨rfl,⟨⟨kd,s.extract r.at_ e2,ng,[],.slice none 0 0⟩,by show (r.refuse r.at_).ns++_=_;rw [hrn],rfl,hkd⟩,hri.1,hri.2,⟨by show r.at_≤e2;omega,h2s⟩,fun h=>by have:=H3.out h;show r.at_<e2;omega,fun _=>hrb,fun q hq=>by rw [hH.out] at hq;cases hq⟩,by rw [← hrn];rfl,K3.out,NewN.nil (n:=⟨kd,s.extract r.at_ e2,ng,[],.slice none 0 0⟩) (show (r.refuse r.at_).ns++_=r.ns++_ by rw [hrn]) rfl,_,hP3.out⟩
 | false=>
   go_upto_region 12 with fail;have hP1:=hP;clear hP;have s1:=hP1.out.c1;have f1:=hP1.out.free 1;go_upto_region 13 with fail;have P2:=hP1.out.setAt e2;have K2:=Hi ((K14.refl B M wc).setM hP1.out.bM 1 (.int .i64 (e2:Nat)));clear hP1 s1 f1;generalize wc.setCell ⟨M,1,none⟩ (.int .i64 (e2:Nat))=W2 at P2 K2 ⊢;have q0:=P2.c0;have cN:=Hi (d_node P2 kd (s.extract r.at_ e2) ng [] (.slice none 0 0) (.inl ⟨rfl,rfl⟩) (show r.ns.length≤100000 by exact hn))
   clear P2;go_wp2_with fail;refine cN.out.mono ?_;rintro e w3 ⟨rfl,K3,v3,P3⟩;have hP3:=Hi P3;have K3:=Hi (K2.out.trans K3);clear P3 cN K2 q0;go_wp2_with fail;go_ret;refine ⟨_,{ r with at_:=e2,ns:=r.ns++[⟨kd,s.extract r.at_ e2,ng,[],.slice none 0 0⟩] },⟨rfl,⟨⟨kd,s.extract r.at_ e2,ng,[],.slice none 0 0⟩,rfl,rfl,hkd⟩,rfl,rfl,⟨by show r.at_≤e2;omega,h2s⟩,fun h=>by have:=H3.out h;show r.at_<e2;omega,(fun hq=>by rw [hH.out] at hq;cases hq),fun q hq=>by rw [hH.out] at hq;cases hq;exact ⟨rfl,rfl⟩⟩,rfl,K3.out,NewN.nil (n:=⟨kd,s.extract r.at_ e2,ng,[],.slice none 0 0⟩) rfl rfl,_,hP3.out⟩
def wd (ns:List N14)(k:Nat):Nat:=match ns[k]? with
 | some n=>max 1 n.kids.length
 | none=>1
def sumW (ns:List N14)(ks:List Nat):Nat:=(ks.map (wd ns)).sum
def NodeOK (ns:List N14):Prop:=∀ n∈ns,(n.kind=4∨n.kind=5)→n.kids.length≠1
theorem wd_pos (ns:List N14)(k:Nat):1≤wd ns k:=by
 unfold wd;split
 ·exact Nat.le_max_left _ _
 ·exact Nat.le_refl _
theorem lay1_le (kind:Int)(ns:List N14)(k:Nat):(lay1 kind ns k).length≤wd ns k:=by
 unfold lay1 wd
 cases ns[k]? with
 | none=>exact Nat.le_refl _
 | some n=>
   dsimp only
   split
   ·exact Nat.le_max_right _ _
   ·exact Nat.le_max_left _ _
theorem laid_len (kind:Int)(ns:List N14):∀ ks:List Nat,(laidS kind ns ks).length≤sumW ns ks
 | []=>Nat.le_refl _
 | k::r=>by
   have h1:=laid_len kind ns r;have h2:=lay1_le kind ns k;unfold laidS sumW at *;rw [List.flatMap_cons,List.length_append,List.map_cons,List.sum_cons];omega
theorem laid_one {kind:Int}{ns:List N14}(hN:NodeOK ns)(hk:kind=4∨kind=5):∀ ks:List Nat,(laidS kind ns ks).length=1→∃ k∈ks,laidS kind ns ks=[k]
 | [],h=>by cases h
 | k::r,h=>by
   have e:laidS kind ns (k::r)=lay1 kind ns k++laidS kind ns r:=by unfold laidS;rw [List.flatMap_cons]
   rw [e,List.length_append] at h;rw [e]
   by_cases h0:(lay1 kind ns k).length=0
   ·rw [h0,Nat.zero_add] at h;obtain ⟨x,hx,ex⟩:=laid_one hN hk r h;exact ⟨x,List.mem_cons_of_mem _ hx,by rw [List.length_eq_zero_iff.1 h0,ex];rfl⟩
   ·have hr:laidS kind ns r=[]:=List.length_eq_zero_iff.1 (by omega)
    refine ⟨k,by simp,?_⟩
    rw [hr,List.append_nil];unfold lay1 at h0 h ⊢
    cases hk2:ns[k]? with
    | none=>rfl
    | some n=>
      rw [hk2] at h0 h;dsimp only at h0 h ⊢
      split
      ·rename_i hkd;rw [if_pos hkd] at h h0;exact absurd (by omega) (hN n (List.mem_of_getElem? hk2) (by rw [hkd];exact hk))
      ·rfl
theorem wd_app {ns t:List N14}{k:Nat}(h:k<ns.length):wd (ns++t) k=wd ns k:=by
 unfold wd;rw [List.getElem?_append_left h]
theorem sumW_app {ns t:List N14}{ks:List Nat}(h:∀ k∈ks,k<ns.length):sumW (ns++t) ks=sumW ns ks:=by
 unfold sumW;rw [List.map_congr_left (fun k hk=>wd_app (h k hk))]
structure JoinR (r r':R14)(ks:List Nat)(k:Nat):Prop where
 lt:k<r'.ns.length
 wd_:wd r'.ns k≤max 1 (sumW r.ns ks)
 ns:∃ t,r'={ r with ns:=r.ns++t }∧t.length≤1
 ok:NodeOK r'.ns
theorem wd_mem {ns:List N14}:∀ {ks:List Nat} {k:Nat},k∈ks→wd ns k≤sumW ns ks
 | a::t,k,h=>by
   unfold sumW;rw [List.map_cons,List.sum_cons];rcases List.mem_cons.1 h with rfl|h
   ·omega
   ·have:=wd_mem (ns:=ns) h;unfold sumW at this;omega
theorem d_join {w:World}{M B:Nat}{s:ByteArray}{r:R14}{v:Value}(P:RdAt w M B s r v)(kind:Int)(hkd:kind=4∨kind=5){vl:Value}{ks:List Nat}(hl:IntsIn w vl ks)(hks:∀ k∈ks,k<r.ns.length)(hN:NodeOK r.ns)(hb:sumW r.ns ks≤100000)(hn:r.ns.length≤99999) :
  Calls Tryz.prog 140 #[.pointer (some ⟨M,0,none⟩),.int .i64 kind,vl] w fun e w'=>∃ (k:Nat) (r':R14),JoinR r r' ks k∧PostW w M B s r r' k e w':=by
 have hll:=laid_len kind r.ns ks
 have hkl:ks.length≤100000:=by
  refine Nat.le_trans ?_ hb;clear hb hll hks hl
  induction ks with
  | nil=>exact Nat.zero_le _
  | cons a t ih=>unfold sumW at *;rw [List.map_cons,List.sum_cons,List.length_cons];have:=wd_pos r.ns a;omega
 have cL:=Hi (d_laid P kind hl hks (by omega) hkl)
 have h1:=Hi (laid_one hN hkd ks);have hP:=Hi P;have hks:=Hi hks;have hNN:=Hi hN;have hsh:=hl.shape;obtain ⟨A,m,c,rfl⟩:=hsh;obtain ⟨L,hL⟩:∃ L,laidS kind r.ns ks=L:=⟨_,rfl⟩
 rw [hL] at cL h1 hll;clear P hN hl hL;go_enter Tryz.func140,Tryz.ntmps140;go_wp2_with fail;refine cL.out.mono ?_;rintro e w1 ⟨v1,rfl,hO,hnil,hb1⟩;have P1:=Hi (hP.out.up hb1);have hI:=Hi (ints_row hO hnil);have K1:=Hi (K14.of_below (M:=M) hb1 (by have:=hP.out.bM;have:=hP.out.lt;omega:B≤w.heap.size))
 by_cases hL1:L.length=1
 ·obtain ⟨k,hk,rfl⟩:=h1.out hL1;obtain ⟨g,cp,rfl⟩:=Go.Joins.ownsRow_form hO (by show 0<1;decide)
  have e0:w1.cell? ⟨g,0,none⟩=some (.int .i64 k):=by rw [hO.cellAt _ (by simp)];rfl
  have hk:=Hi hk;clear hO hnil hb1 cL hL1 h1 hP hll hkd;go_wp2_with fail;go_ret;exact ⟨k,r,⟨hks.out k hk.out,Nat.le_trans (wd_mem hk.out) (Nat.le_max_right _ _),⟨[],by simp,Nat.zero_le _⟩,hNN.out⟩,rfl,K1.out,NewN.refl rfl,_,P1.out⟩
 ·obtain ⟨A1,m1,c1,rfl⟩:=hI.out.shape;have hnb:=Hi (fun g hg=>(hO.lt g hg).1)
  have hm1:m1=L.length:=by rcases Go.Joins.ownsRow_forms hO with ⟨h,h2⟩|⟨g,cp,h⟩<;>cases h<;>simp_all
  have bl:((m1:Int) == 1)=false:=by rw [beq_eq_false_iff_ne];omega
  have cN:=Hi (d_node P1.out kind ⟨#[]⟩ false L (.slice A1 m1 c1) hI.out (by omega))
  have hL1:=Hi hL1;rename_i hL0;clear hO hnil hb1 cL h1 hP hm1 hkd;clear hL0;go_wp2_with fail;refine cN.out.mono ?_;rintro e w2 ⟨rfl,K2,v2,P2⟩;have hP2:=Hi P2;have K2:=Hi (K1.out.trans K2);clear P2 cN K1;go_wp2_with fail;go_ret;refine ⟨r.ns.length,{ r with ns:=r.ns++[⟨kind,⟨#[]⟩,false,L,.slice A1 m1 c1⟩] },⟨by simp,?_,⟨_,rfl,by simp⟩,?_⟩,rfl,K2.out,NewN.snoc (n:=⟨kind,⟨#[]⟩,false,L,.slice A1 m1 c1⟩) rfl hnb.out,_,hP2.out⟩
  ·show wd (r.ns++[_]) r.ns.length≤_
   unfold wd;rw [List.getElem?_append_right (Nat.le_refl _),Nat.sub_self]
   show max 1 L.length≤_
   omega
  ·intro n hn hk;rcases List.mem_append.1 hn with h|h
   ·exact hNN.out n h hk
   ·rw [List.mem_singleton] at h;subst h;exact hL1.out
structure DesP (s:ByteArray)(r:R14):Prop where
 bad:r.bad<0
 at_:r.at_≤s.size
 it:r.it≤48
 dp:r.dp≤32
 ok:NodeOK r.ns
 ns:r.ns.length≤4*r.at_
structure DesR (s:ByteArray)(r r':R14)(o:Option (Bytes×Nat))(c:Nat):Prop where
 ns:∃ t,r'.ns=r.ns++t∧t.length+4*r.at_≤4*r'.at_+c
 ok:NodeOK r'.ns
 dp:r'.dp=r.dp
 le:r.at_≤r'.at_
 it:r'.it≤49
 top:r'.at_+r'.dp≤s.size+33
 none_:o=none→0≤r'.bad
 some_:∀ q,o=some q→r'.bad<0∧(bs s).drop r'.at_=q.1∧r'.it=q.2∧r'.it≤48∧r'.at_≤s.size
theorem item_eq (r:R14)(i:Nat):(r.item i).at_=r.at_∧(r.item i).it=r.it+1∧(r.item i).dp=r.dp∧(r.item i).ns=r.ns∧(48≤r.it→0≤(r.item i).bad)∧(¬ 48≤r.it→(r.item i).bad=r.bad):=by
 unfold R14.item R14.refuse
 split
 ·split
  ·exact ⟨rfl,rfl,rfl,rfl,fun _=>by show (0:Int)≤(i:Int);omega,fun h=>absurd (by assumption) h⟩
  ·rename_i h;exact ⟨rfl,rfl,rfl,rfl,fun _=>by show 0≤r.bad;omega,fun h=>absurd (by assumption) h⟩
 ·rename_i h;exact ⟨rfl,rfl,rfl,rfl,fun h2=>absurd h2 h,fun _=>rfl⟩
theorem des_suf (f:Nat)(r:Bytes)(it d:Nat):des (f+1) .suf r it d=match peekS r with
  | []=>some ([],it)
  | c::r2=>if sufU c=true then (if 48≤it then none else des f .suf r2 (it+1) d) else some (c::r2,it):=rfl
structure SufI (s:ByteArray)(r rr:R14)(k kk:Nat)(o:Option (Bytes×Nat))(N:Nat):Prop where
 lt:kk<rr.ns.length
 wd_:wd rr.ns kk≤wd r.ns k
 ns:∃ t,rr.ns=r.ns++t∧t.length+r.at_≤rr.at_
 ok:NodeOK rr.ns
 dp:rr.dp=r.dp
 le:r.at_≤rr.at_∧rr.at_≤s.size
 it:rr.it≤49
 new:NewN N r rr
 st:(rr.bad<0∧rr.it≤48∧∃ f,o=des f .suf ((bs s).drop rr.at_) rr.it r.dp∧4*((bs s).drop rr.at_).length+1≤f)∨(0≤rr.bad∧o=none)
def mu14 (M n:Nat)(w:World):Nat:=if intOf ((w.cell? ⟨M,4,none⟩).getD undef)<0 then n+2-atOf14 M w else 0
theorem RdAt.mu {w:World}{M B:Nat}{s:ByteArray}{r:R14}{v:Value}(P:RdAt w M B s r v)(n:Nat):mu14 M n w=if r.bad<0 then n+2-r.at_ else 0:=by
 unfold mu14;rw [P.atOf,P.c4];rfl
theorem d_suffixed {w:World}{M B:Nat}{s:ByteArray}{r:R14}{v:Value}(P:RdAt w M B s r v)(D:DesP s r)(hs:s.size≤300){k:Nat}(hk:k<r.ns.length){F:Nat}(hF:4*((bs s).drop r.at_).length+1≤F)(hn:r.ns.length≤4*r.at_+4) :
  Calls Tryz.prog 169 #[.pointer (some ⟨M,0,none⟩),.int .i64 k] w fun e w'=>∃ (k':Nat) (r':R14),(k'<r'.ns.length∧wd r'.ns k'≤wd r.ns k∧DesR s r r' (des F .suf ((bs s).drop r.at_) r.it r.dp) 0∧r'.at_≤s.size)∧PostW w M B s r r' k' e w':=by
 obtain ⟨o,ho⟩:∃ o,des F .suf ((bs s).drop r.at_) r.it r.dp=o:=⟨_,rfl⟩
 have I0:SufI s r r k k o w.heap.size:=⟨hk,Nat.le_refl _,⟨[],by simp,by simp⟩,D.ok,rfl,⟨Nat.le_refl _,D.at_⟩,Nat.le_succ_of_le D.it,NewN.refl rfl,.inl ⟨D.bad,D.it,F,ho.symm,hF⟩⟩
 rw [ho];have I0:=Hi I0;have hP:=Hi P;have hdp:=D.dp;clear P D hk hF ho;go_enter Tryz.func169,Tryz.ntmps169;go_wp2_with fail
 go_loopw [1] (fun a wr=>∃ (kk:Nat) (rr:R14) (vv:Value),a=.int .i64 kk∧Hid (RdAt wr M B s rr vv)∧Hid (SufI s r rr k kk o w.heap.size)∧Hid (K14 B M w wr)) (fun _ wr=>mu14 M s.size wr)
 case atStart=>exact ⟨k,r,v,rfl,hP,I0,Hi (K14.refl _ _ _)⟩
 case round=>
  obtain ⟨kk,rr,vv,rfl,Q,I,K⟩:=hrel;obtain ⟨wq,rfl⟩:∃ wq,wq=wr:=⟨_,rfl⟩
  have hmu:=Q.out.mu s.size;have q4:=Q.out.c4;have hle:=I.out.le;clear hP I0;rcases I.out.st with ⟨hbad,hit,f,hof,hff⟩|⟨hbad,hon⟩
  ·rw [if_pos hbad] at hmu;have hmu:=Hi hmu;have bb:rr.bad<0:=hbad;have cp:=Hi (d_peek Q.out (by omega) (by omega))
   obtain ⟨f,rfl⟩:∃ f',f=f'+1:=⟨f-1,by omega⟩
   rw [des_suf] at hof;have hpk:=peek14 s rr;have hpl:=peek14_le s rr hle.2;have hrp:(rr.peek s).it=rr.it∧(rr.peek s).dp=rr.dp∧(rr.peek s).bad=rr.bad∧(rr.peek s).ns=rr.ns:=⟨rfl,rfl,rfl,rfl⟩;have hpp:=peek_len ((bs s).drop rr.at_);have hrr:(rr.peek s).it=rr.it:=rfl;obtain ⟨r1,hr1⟩:∃ r1,rr.peek s=r1:=⟨_,rfl⟩
   rw [hr1] at cp hpk hpl hrp;obtain ⟨p1,p2,p3,p4⟩:=hrp;have hff:=Hi hff;have hit:=Hi hit;have hbadh:=Hi hbad;clear hr1 hrr
   cases hpe:peekS ((bs s).drop rr.at_) with
   | nil=>
     rw [hpe] at cp hof hpk;have cp:Hid (Calls Tryz.prog 138 #[.pointer (some ⟨M,0,none⟩)] wq fun e w'=>e=.returned (.int .u8 0)∧K14 B M wq w'∧RdAt w' M B s r1 vv):=cp
     have hof:=Hi hof;have hpk:=Hi hpk;clear hpe hpp hbad hmu;go_wp2_with fail;refine cp.out.mono ?_;rintro e w1 ⟨rfl,K1,P1⟩;have hP1:=Hi P1;have K1:=Hi (K.out.trans K1);clear P1 cp;go_wp2_with fail;go_ret;obtain ⟨t,ht,htl⟩:=I.out.ns;refine ⟨kk,r1,⟨by rw [p4];exact I.out.lt,by rw [p4];exact I.out.wd_,⟨⟨t,by rw [p4];exact ht,by omega⟩,by rw [p4];exact I.out.ok,p2.trans I.out.dp,by omega,by rw [p1];exact I.out.it,by rw [p2];have:=I.out.dp;omega,(fun h=>by rw [hof.out] at h;cases h),fun q hq=>?_⟩,hpl.2⟩,rfl,K1.out,I.out.new.of_ns p4,vv,hP1.out⟩
     rw [hof.out] at hq;cases hq
     exact ⟨by rw [p3];exact hbadh.out,hpk.out,p1,by rw [p1];exact hit.out,hpl.2⟩
   | cons c r2=>
     rw [hpe] at cp hof hpk hpp;have cp:Hid (Calls Tryz.prog 138 #[.pointer (some ⟨M,0,none⟩)] wq fun e w'=>e=.returned (.int .u8 (c.toNat:Nat))∧K14 B M wq w'∧RdAt w' M B s r1 vv):=cp
     have hlt1:r1.at_<s.size:=by
      by_cases h:r1.at_<s.size
      ·exact h
      ·rw [bs_drop_end s _ h] at hpk;cases hpk
     have hpk2:(bs s).drop (r1.at_+1)=r2:=by rw [bs_drop s _ hlt1] at hpk;cases hpk;rfl
     dsimp only at hof
     by_cases hsu:sufU c=true
     ·rw [if_pos hsu] at hof;have hci:c.toNat=42∨c.toNat=43∨c.toNat=63:=by unfold sufU at hsu;simp only [Bool.or_eq_true,beq_iff_eq] at hsu;omega
      have cI:=fun (w1:World) (P1:RdAt w1 M B s r1 vv)=>d_item P1 r1.at_ (by rw [p1];have:=hit.out;omega)
      obtain ⟨i1,i2,i3,i4,i5,i6⟩:=item_eq r1 r1.at_;obtain ⟨r3,hr3⟩:∃ r3,r1.item r1.at_=r3:=⟨_,rfl⟩
      rw [hr3] at i1 i2 i3 i4 i5 i6;have cI:∀ (w1:World),RdAt w1 M B s r1 vv→Calls Tryz.prog 139 #[.pointer (some ⟨M,0,none⟩),.int .i64 r1.at_] w1 fun e w'=>Post14 w1 M B s r3 e w':=fun w1 P1=>hr3▸cI w1 P1
      have cI:=Hi cI;have hof:=Hi hof;have hpk2:=Hi hpk2;have i1:=Hi i1;have i2:=Hi i2;have i3:=Hi i3;have i4:=Hi i4;have i5:=Hi i5;have i6:=Hi i6;have p1:=Hi p1;have p2:=Hi p2;have p3:=Hi p3;have p4:=Hi p4;have bw1:IntKind.i64.wrap ((r1.at_:Int)+1)=(r1.at_:Int)+1:=IntWalk.i64_in _ (by omega)
      have hmuh:=hmu;have hppl:4*r2.length+4≤4*((bs s).drop rr.at_).length:=by simp only [List.length_cons] at hpp;omega
      clear hpe hpp hbad hmu hpk hsu hr3;rcases hci with hc|hc|hc
      all_goals (
       rw [hc] at cp;go_wp2_with fail;refine cp.out.mono ?_;rintro e w1 ⟨rfl,K1,P1⟩;have cJ:=Hi (cI.out w1 P1);have q1:=P1.c1;have K1:=Hi (K.out.trans K1);clear P1 cp cI;go_wp2_with fail;refine cJ.out.mono ?_;rintro e w2 ⟨rfl,K2,v2,P2⟩;have s1:w2.cell? ⟨M,1,none⟩=some (.int .i64 r1.at_):=by have:=P2.c1;rw [i1.out] at this;exact this
       have f1:=P2.free 1;have hP2:=Hi P2;have K2:=Hi (K1.out.trans K2);clear P2 cJ K1 q1;go_upto_region 13 with fail;have P3:=hP2.out.setAt (r1.at_+1);have P3:RdAt (w2.setCell ⟨M,1,none⟩ (.int .i64 ((r1.at_:Int)+1))) M B s { r3 with at_:=r1.at_+1 } v2:=P3;have K3:=Hi (K2.out.setM hP2.out.bM 1 (.int .i64 ((r1.at_:Int)+1)));clear hP2 s1 f1 K2;generalize w2.setCell ⟨M,1,none⟩ (.int .i64 ((r1.at_:Int)+1))=w3 at P3 K3 ⊢;have hb4:Below w3.heap.size w3 (w3.alloc (.cells #[.int .i64 kk] 3 (0,0))):=(Below.refl _ w3).alloc (Nat.le_refl _) _
       have hI4:IntsIn (w3.alloc (.cells #[.int .i64 kk] 3 (0,0))) (.slice (some ⟨w3.heap.size,0,none⟩) 1 1) [kk]:=.inr ⟨w3.heap.size,1,#[.int .i64 kk],(0,0),by simp,rfl,heap_alloc_new w3 _,fun j y hj=>by
        have hj0:j=0:=by have:=(List.getElem?_eq_some_iff.1 hj).1;simp at this;exact this
        subst hj0
        cases hj
        have:=cell_of_row _ w3.heap.size 0 _ _ _ (heap_alloc_new w3 (.cells #[.int .i64 kk] 3 (0,0)));exact this⟩
       have P4:=P3.up hb4;have K4:=Hi (K3.out.trans (K14.of_below (M:=M) hb4 (by have:=P3.bM;have:=P3.lt;omega)))
       have hn4:r3.ns.length≤100000:=by
        obtain ⟨t,ht,htl⟩:=I.out.ns;rw [i4.out,p4.out,ht,List.length_append];omega
       have cN:=Hi (fun kd=>d_node P4 kd ⟨#[]⟩ false [kk] (.slice (some ⟨w3.heap.size,0,none⟩) 1 1) hI4 hn4)
       have hsz3:w.heap.size≤w3.heap.size:=K3.out.below.size;clear P3 P4 hb4 hI4 K3 hn4;go_wp2_with fail;refine (cN.out _).mono ?_;rintro e w5 ⟨rfl,K5,v5,P5⟩;have hP5:=Hi P5;have K5:=Hi (K4.out.trans K5);have hmu5:=Hi (P5.mu s.size);clear P5 cN K4;go_wp2_with fail;obtain ⟨t,ht,htl⟩:=I.out.ns;refine ⟨⟨_,_,v5,rfl,hP5,Hi ⟨by show rr.ns.length<(r3.ns++[_]).length;rw [i4.out,p4.out];simp,?_,⟨t++[_],by show r3.ns++_=_;rw [i4.out,p4.out,ht,List.append_assoc],by rw [List.length_append];show t.length+1+r.at_≤r1.at_+1;omega⟩,?_,?_,⟨by show r.at_≤r1.at_+1;omega,hlt1⟩,by show r3.it≤49;rw [i2.out,p1.out];have:=hit.out;omega,NewN.trans I.out.new (NewN.snoc (N:=w.heap.size) (show r3.ns++[_]=rr.ns++[_] by rw [i4.out,p4.out]) (fun g hg=>by cases hg;exact hsz3)) (Nat.le_refl _),?_⟩,K5⟩,?_⟩
       ·show wd (r3.ns++[_]) rr.ns.length≤_
        rw [i4.out,p4.out];unfold wd;rw [List.getElem?_append_right (Nat.le_refl _),Nat.sub_self];exact wd_pos r.ns k
       ·intro n hn hk;rcases List.mem_append.1 hn with h|h
        ·rw [i4.out,p4.out] at h;exact I.out.ok n h hk
        ·rw [List.mem_singleton] at h;subst h;simp at hk
       ·show r3.dp=r.dp
        rw [i3.out,p2.out];exact I.out.dp
       ·show (r3.bad<0∧r3.it≤48∧∃ f,o=des f .suf ((bs s).drop (r1.at_+1)) r3.it r.dp∧4*((bs s).drop (r1.at_+1)).length+1≤f)∨(0≤r3.bad∧o=none)
        by_cases h48:48≤rr.it
        ·exact .inr ⟨i5.out (by rw [p1.out];exact h48),hof.out.trans (if_pos h48)⟩
        ·refine .inl ⟨by rw [i6.out (by rw [p1.out];exact h48),p3.out];exact hbadh.out,by rw [i2.out,p1.out];omega,f,?_,?_⟩
         ·rw [hpk2.out,i2.out,p1.out];exact hof.out.trans (if_neg h48)
         ·rw [hpk2.out];have:=hff.out;omega
       ·rw [hmuh.out,hmu5.out]
        show (if r3.bad<0 then s.size+2-(r1.at_+1) else 0)<_
        split<;>omega)
     ·rw [if_neg hsu] at hof;have hof:=Hi hof;have hpk:=Hi hpk;have d1:((c.toNat:Int) == 42)=false:=by rw [beq_eq_false_iff_ne];unfold sufU at hsu;simp only [Bool.or_eq_true,beq_iff_eq] at hsu;omega
      have d2:((c.toNat:Int) == 43)=false:=by rw [beq_eq_false_iff_ne];unfold sufU at hsu;simp only [Bool.or_eq_true,beq_iff_eq] at hsu;omega
      have d3:((c.toNat:Int) == 63)=false:=by rw [beq_eq_false_iff_ne];unfold sufU at hsu;simp only [Bool.or_eq_true,beq_iff_eq] at hsu;omega
      clear hpe hpp hbad hmu hsu hpk2;go_wp2_with fail;refine cp.out.mono ?_;rintro e w1 ⟨rfl,K1,P1⟩;have hP1:=Hi P1;have K1:=Hi (K.out.trans K1);clear P1 cp;go_wp2_with fail;go_ret;obtain ⟨t,ht,htl⟩:=I.out.ns;refine ⟨kk,r1,⟨by rw [p4];exact I.out.lt,by rw [p4];exact I.out.wd_,⟨⟨t,by rw [p4];exact ht,by omega⟩,by rw [p4];exact I.out.ok,p2.trans I.out.dp,by omega,by rw [p1];exact I.out.it,by rw [p2];have:=I.out.dp;omega,(fun h=>by rw [hof.out] at h;cases h),fun q hq=>?_⟩,hpl.2⟩,rfl,K1.out,I.out.new.of_ns p4,vv,hP1.out⟩
      rw [hof.out] at hq;cases hq
      exact ⟨by rw [p3];exact hbadh.out,hpk.out,p1,by rw [p1];exact hit.out,hpl.2⟩
  ·have hof:=Hi hon;have bb:¬ rr.bad<0:=by omega
   have hb0:=Hi hbad;clear hmu hon;go_wp2_with fail;go_ret;obtain ⟨t,ht,htl⟩:=I.out.ns;exact ⟨kk,rr,⟨I.out.lt,I.out.wd_,⟨⟨t,ht,by omega⟩,I.out.ok,I.out.dp,hle.1,I.out.it,by have:=I.out.dp;omega,fun _=>hb0.out,fun q hq=>by rw [hof.out] at hq;cases hq⟩,hle.2⟩,rfl,K.out,I.out.new,vv,Q.out⟩
theorem des_atom (f:Nat)(c:UInt8)(q:Bytes)(it d:Nat):des (f+1) .atom (c::q) it d =
   (if c.toNat=46 then (if 48≤it then none else some (q,it+1))
   else if letterU c=true then (if 48≤it then none else match nameEnd (c::q) with
    | none=>none
    | some q=>some (q,it+1))
   else if c.toNat=33 then (if 48≤it then none else if letL q=false then none else match nameEnd q with
    | none=>none
    | some q=>some (q,it+1))
   else if c.toNat=40 then (if 32≤d then none else match des f .pat q it (d+1) with
    | none=>none
    | some q=>match peekS q.1 with
      | []=>none
      | c2::r3=>if c2.toNat=41 then some (r3,q.2) else none)
   else none):=rfl
structure AtomR (s:ByteArray)(r r':R14)(o:Option (Bytes×Nat))(k:Nat):Prop where
 D:DesR s r r' o 0
 good:r'.bad<0→k<r'.ns.length∧wd r'.ns k≤r'.at_-r.at_∧r.at_<r'.at_
theorem ok_snoc {ns:List N14}{n:N14}(h:NodeOK ns)(hn:n.kind≠4∧n.kind≠5):NodeOK (ns++[n]):=by
 intro x hx hk;rcases List.mem_append.1 hx with hx|hx
 ·exact h x hx hk
 ·rw [List.mem_singleton] at hx;subst hx;rcases hk with hk|hk
  ·exact absurd hk hn.1
  ·exact absurd hk hn.2
theorem wd_last {ns:List N14}{n:N14}(h:n.kids.length≤1):wd (ns++[n]) ns.length=1:=by
 unfold wd;rw [List.getElem?_append_right (Nat.le_refl _),Nat.sub_self]
 show max 1 n.kids.length=1
 omega
theorem refuse_eq (r:R14)(i:Nat):(r.refuse i).at_=r.at_∧(r.refuse i).it=r.it∧(r.refuse i).dp=r.dp∧(r.refuse i).ns=r.ns∧0≤(r.refuse i).bad:=by
 unfold R14.refuse
 split
 ·exact ⟨rfl,rfl,rfl,rfl,by show (0:Int)≤(i:Int);omega⟩
 ·exact ⟨rfl,rfl,rfl,rfl,by omega⟩
theorem d_atom_dot {w:World}{M B:Nat}{s:ByteArray}{r:R14}{v:Value}(P:RdAt w M B s r v)(D:DesP s r)(hs:s.size≤300)(hl:r.at_<s.size)(f:Nat)(hc:s[r.at_].toNat=46) :
  Calls Tryz.prog 168 #[.pointer (some ⟨M,0,none⟩),.int .u8 s[r.at_].toNat] w fun e w'=>∃ (k:Nat) (r':R14),AtomR s r r' (des (f+1) .atom ((bs s).drop r.at_) r.it r.dp) k∧PostW w M B s r r' k e w':=by
 have H:=Hi (show des (f+1) .atom ((bs s).drop r.at_) r.it r.dp=(if 48≤r.it then none else some ((bs s).drop (r.at_+1),r.it+1)) by
  rw [bs_drop s _ hl,des_atom,if_pos hc])
 rw [hc];have D':=Hi D;have hns:=D.ns;have cI:=d_item P r.at_ (by have:=D.it;omega)
 have q1:=P.c1;obtain ⟨i1,i2,i3,i4,i5,i6⟩:=item_eq r r.at_;obtain ⟨r3,hr3⟩:∃ r3,r.item r.at_=r3:=⟨_,rfl⟩
 rw [hr3] at i1 i2 i3 i4 i5 i6 cI;have cI:=Hi cI;have j1:=Hi i1;have j2:=Hi i2;have j3:=Hi i3;have j4:=Hi i4;have j5:=Hi i5;have j6:=Hi i6;have bw1:IntKind.i64.wrap ((r.at_:Int)+1)=(r.at_:Int)+1:=IntWalk.i64_in _ (by omega)
 have hl':=Hi hl;clear i1 i2 i3 i4 i5 i6 hr3 P D hc;go_enter Tryz.func168,Tryz.ntmps168;go_wp2_with fail;refine cI.out.mono ?_;rintro e w2 ⟨rfl,K2,v2,P2⟩;have s1:w2.cell? ⟨M,1,none⟩=some (.int .i64 r.at_):=by have:=P2.c1;rw [j1.out] at this;exact this
 have f1:=P2.free 1;have hP2:=Hi P2;clear P2 cI q1;go_upto_region 4 with fail;have P3:RdAt (w2.setCell ⟨M,1,none⟩ (.int .i64 ((r.at_:Int)+1))) M B s { r3 with at_:=r.at_+1 } v2:=hP2.out.setAt (r.at_+1);have K3:=Hi (K2.setM hP2.out.bM 1 (.int .i64 ((r.at_:Int)+1)));clear hP2 s1 f1;generalize w2.setCell ⟨M,1,none⟩ (.int .i64 ((r.at_:Int)+1))=w3 at P3 K3 ⊢;have cN:=Hi (d_node P3 1 ⟨#[]⟩ false [] (.slice none 0 0) (.inl ⟨rfl,rfl⟩) (show r3.ns.length≤100000 by rw [j4.out];omega))
 clear P3;go_wp2_with fail;refine cN.out.mono ?_;rintro e w5 ⟨rfl,K5,v5,P5⟩;have hP5:=Hi P5;have K5:=Hi (K3.out.trans K5);clear P5 cN;go_wp2_with fail;go_ret;refine ⟨r3.ns.length,{ r3 with at_:=r.at_+1,ns:=r3.ns++[⟨1,⟨#[]⟩,false,[],.slice none 0 0⟩] },⟨⟨⟨[⟨1,⟨#[]⟩,false,[],.slice none 0 0⟩],by show r3.ns++_=_;rw [j4.out],by show 1+4*r.at_≤4*(r.at_+1)+0;omega⟩,ok_snoc (by rw [j4.out];exact D'.out.ok) ⟨by show (1:Int)≠4;decide,by show (1:Int)≠5;decide⟩,j3.out,Nat.le_succ _,by show r3.it≤49;rw [j2.out];have:=D'.out.it;omega,by show r.at_+1+r3.dp≤_;rw [j3.out];have:=D'.out.dp;have:=hl'.out;omega,fun h=>?_,fun q hq=>?_⟩,fun _=>⟨by simp,by rw [wd_last (by simp)];show 1≤r.at_+1-r.at_;omega,Nat.lt_succ_self _⟩⟩,rfl,K5.out,NewN.nil (n:=⟨1,⟨#[]⟩,false,[],.slice none 0 0⟩) (show r3.ns++_=r.ns++_ by rw [j4.out]) rfl,v5,hP5.out⟩
 ·rw [H.out] at h
  by_cases h48:48≤r.it
  ·exact j5.out h48
  ·rw [if_neg h48] at h;cases h
 ·rw [H.out] at hq
  by_cases h48:48≤r.it
  ·rw [if_pos h48] at hq;cases hq
  ·rw [if_neg h48] at hq
   cases hq
   exact ⟨by show r3.bad<0;rw [j6.out h48];exact D'.out.bad,rfl,j2.out,by show r3.it≤48;rw [j2.out];omega,hl'.out⟩
theorem d_atom_name {w:World}{M B:Nat}{s:ByteArray}{r:R14}{v:Value}(P:RdAt w M B s r v)(D:DesP s r)(hs:s.size≤300)(hl:r.at_<s.size)(f:Nat)(hc0:s[r.at_].toNat≠46)(hc:letterN s[r.at_].toNat=true) :
  Calls Tryz.prog 168 #[.pointer (some ⟨M,0,none⟩),.int .u8 s[r.at_].toNat] w fun e w'=>∃ (k:Nat) (r':R14),AtomR s r r' (des (f+1) .atom ((bs s).drop r.at_) r.it r.dp) k∧PostW w M B s r r' k e w':=by
 have H:=Hi (show des (f+1) .atom ((bs s).drop r.at_) r.it r.dp=(if 48≤r.it then none else match nameEnd ((bs s).drop r.at_) with
    | none=>none
    | some q=>some (q,r.it+1)) by
  rw [bs_drop s _ hl,des_atom,if_neg hc0,if_pos (show letterU s[r.at_]=true from hc)])
 have hLL:=Hi (show letL ((bs s).drop r.at_)=true by rw [letL_at s _ hl];exact hc)
 have d46:((s[r.at_].toNat:Int) == 46)=false:=by rw [beq_eq_false_iff_ne];omega
 have D':=Hi D;have hns:=D.ns;have cI:=d_item P r.at_ (by have:=D.it;omega)
 have q1:=P.c1;obtain ⟨i1,i2,i3,i4,i5,i6⟩:=item_eq r r.at_;obtain ⟨r3,hr3⟩:∃ r3,r.item r.at_=r3:=⟨_,rfl⟩
 rw [hr3] at i1 i2 i3 i4 i5 i6 cI;have cI:=Hi cI;have j1:=Hi i1;have j2:=Hi i2;have j3:=Hi i3;have j4:=Hi i4;have j5:=Hi i5;have j6:=Hi i6;have cl:=Hi (fun (w:World)=>show Calls Tryz.prog 185 #[.int .u8 s[r.at_].toNat] w fun e w'=>e=.returned (.bool true)∧w=w' from hc▸d_letter s[r.at_].toNat w)
 have hl':=Hi hl;clear i1 i2 i3 i4 i5 i6 hr3 P D hc hc0;go_enter Tryz.func168,Tryz.ntmps168;go_upto_region 6 with (go_at_call 185;refine (cl.out _).mono ?_;rintro e w' ⟨rfl,rfl⟩);go_wp2_with fail;refine cI.out.mono ?_;rintro e w2 ⟨rfl,K2,v2,P2⟩;have cN:=Hi (d_name P2 false (by rw [j1.out];omega) hs (by rw [j4.out];omega))
 clear P2 cI q1;go_wp2_with fail;refine cN.out.mono ?_;rintro e w5 ⟨k,r',R,rfl,K5,N5,v5,P5⟩;have hnew:=Hi (NewN.trans (NewN.refl j4.out:NewN w.heap.size r r3) N5 K2.below.size);clear N5;have hP5:=Hi P5;have K5:=Hi (K2.trans K5);have R:=Hi R;clear P5 cN;go_wp2_with fail;go_ret;obtain ⟨n,hn1,hn2,hn3⟩:=R.out.ns;have hlt:=R.out.lt;have hle:=R.out.le;have hno:=R.out.none_;have hso:=R.out.some_;rw [j1.out] at hlt hle hno hso;have hlt:=hlt hLL.out;have hkk:=R.out.k;refine ⟨k,r',⟨⟨⟨[n],by rw [hn1,j4.out],by simp;omega⟩,by rw [hn1];exact ok_snoc (by rw [j4.out];exact D'.out.ok) (by omega),R.out.dp.trans j3.out,hle.1,by rw [R.out.it,j2.out];have:=D'.out.it;omega,by rw [R.out.dp,j3.out];have:=D'.out.dp;omega,fun h=>?_,fun q hq=>?_⟩,fun _=>⟨by rw [hn1,hkk,List.length_append];simp,by rw [hn1,hkk,wd_last (by rw [hn2];simp)];omega,hlt⟩⟩,rfl,K5.out,hnew.out,v5,hP5.out⟩
 ·rw [H.out] at h
  cases hne:nameEnd ((bs s).drop r.at_) with
  | none=>exact hno hne
  | some q=>
    by_cases h48:48≤r.it
    ·rw [(hso q hne).1];exact j5.out h48
    ·rw [if_neg h48,hne] at h;cases h
 ·rw [H.out] at hq
  by_cases h48:48≤r.it
  ·rw [if_pos h48] at hq;cases hq
  ·rw [if_neg h48] at hq
   cases hne:nameEnd ((bs s).drop r.at_) with
   | none=>rw [hne] at hq;cases hq
   | some q2=>
     rw [hne] at hq
     cases hq
     obtain ⟨h1,h2⟩:=hso q2 hne;exact ⟨by rw [h1,j6.out h48];exact D'.out.bad,h2,by rw [R.out.it];exact j2.out,by rw [R.out.it,j2.out];omega,hle.2⟩
theorem d_atom_bad {w:World}{M B:Nat}{s:ByteArray}{r:R14}{v:Value}(P:RdAt w M B s r v)(D:DesP s r)(hs:s.size≤300)(hl:r.at_<s.size)(f:Nat)(hc0:s[r.at_].toNat≠46)(hc:letterN s[r.at_].toNat=false)(hc1:s[r.at_].toNat≠33)(hc2:s[r.at_].toNat≠40) :
  Calls Tryz.prog 168 #[.pointer (some ⟨M,0,none⟩),.int .u8 s[r.at_].toNat] w fun e w'=>∃ (k:Nat) (r':R14),AtomR s r r' (des (f+1) .atom ((bs s).drop r.at_) r.it r.dp) k∧PostW w M B s r r' k e w':=by
 have H:=Hi (show des (f+1) .atom ((bs s).drop r.at_) r.it r.dp=none by
  rw [bs_drop s _ hl,des_atom,if_neg hc0,if_neg (by rw [show letterU s[r.at_]=false from hc];decide),if_neg hc1,if_neg hc2])
 have d46:((s[r.at_].toNat:Int) == 46)=false:=by rw [beq_eq_false_iff_ne];omega
 have d33:((s[r.at_].toNat:Int) == 33)=false:=by rw [beq_eq_false_iff_ne];omega
 have d40:((s[r.at_].toNat:Int) == 40)=false:=by rw [beq_eq_false_iff_ne];omega
 have D':=Hi D;have cI:=d_refuse P r.at_;have q1:=P.c1;obtain ⟨i1,i2,i3,i4,i5⟩:=refuse_eq r r.at_;obtain ⟨r3,hr3⟩:∃ r3,r.refuse r.at_=r3:=⟨_,rfl⟩
 rw [hr3] at i1 i2 i3 i4 i5 cI;have cI:=Hi cI;have j1:=Hi i1;have j2:=Hi i2;have j3:=Hi i3;have j4:=Hi i4;have j5:=Hi i5;have cl:=Hi (fun (w:World)=>show Calls Tryz.prog 185 #[.int .u8 s[r.at_].toNat] w fun e w'=>e=.returned (.bool false)∧w=w' from hc▸d_letter s[r.at_].toNat w)
 clear i1 i2 i3 i4 i5 hr3 P D hc hc0 hc1 hc2;go_enter Tryz.func168,Tryz.ntmps168;go_upto_region 28 with (go_at_call 185;refine (cl.out _).mono ?_;rintro e w' ⟨rfl,rfl⟩);go_wp2_with fail;refine cI.out.mono ?_;rintro e w2 ⟨rfl,K2,v2,P2⟩;have hP2:=Hi P2;clear P2 cI q1;go_wp2_with fail;go_ret;exact ⟨0,r3,⟨⟨⟨[],by rw [j4.out];simp,by rw [j1.out];simp⟩,by rw [j4.out];exact D'.out.ok,j3.out,by rw [j1.out];exact Nat.le_refl _,by rw [j2.out];have:=D'.out.it;omega,by rw [j1.out,j3.out];have:=D'.out.dp;have:=D'.out.at_;omega,fun _=>j5.out,fun q hq=>by rw [H.out] at hq;cases hq⟩,fun h=>absurd j5.out (by omega)⟩,rfl,K2,NewN.refl j4.out,v2,hP2.out⟩
theorem d_atom_not {w:World}{M B:Nat}{s:ByteArray}{r:R14}{v:Value}(P:RdAt w M B s r v)(D:DesP s r)(hs:s.size≤300)(hl:r.at_<s.size)(f:Nat)(hc:s[r.at_].toNat=33) :
  Calls Tryz.prog 168 #[.pointer (some ⟨M,0,none⟩),.int .u8 s[r.at_].toNat] w fun e w'=>∃ (k:Nat) (r':R14),AtomR s r r' (des (f+1) .atom ((bs s).drop r.at_) r.it r.dp) k∧PostW w M B s r r' k e w':=by
 have H:=Hi (show des (f+1) .atom ((bs s).drop r.at_) r.it r.dp=(if 48≤r.it then none else if letL ((bs s).drop (r.at_+1))=false then none else match nameEnd ((bs s).drop (r.at_+1)) with
    | none=>none
    | some q=>some (q,r.it+1)) by
  rw [bs_drop s _ hl,des_atom,if_neg (by omega),if_neg (by unfold letterU;rw [hc];decide),if_pos hc];first|done|rfl)
 rw [hc];have D':=Hi D;have hns:=D.ns;have hdp:=D.dp;have hit:=D.it;have cI:=d_item P r.at_ (by have:=D.it;omega)
 have q1:=P.c1;obtain ⟨i1,i2,i3,i4,i5,i6⟩:=item_eq r r.at_;obtain ⟨r3,hr3⟩:∃ r3,r.item r.at_=r3:=⟨_,rfl⟩
 rw [hr3] at i1 i2 i3 i4 i5 i6 cI;have cI:=Hi cI;have j1:=Hi i1;have j2:=Hi i2;have j3:=Hi i3;have j4:=Hi i4;have j5:=Hi i5;have j6:=Hi i6;have bw1:IntKind.i64.wrap ((r.at_:Int)+1)=(r.at_:Int)+1:=IntWalk.i64_in _ (by omega)
 have cl:=Hi (fun (w:World)=>show Calls Tryz.prog 185 #[.int .u8 33] w fun e w'=>e=.returned (.bool false)∧w=w' from d_letter 33 w)
 clear i1 i2 i3 i4 i5 i6 hr3 P D hc;go_enter Tryz.func168,Tryz.ntmps168;go_upto_region 9 with (go_at_call 185;refine (cl.out _).mono ?_;rintro e w' ⟨rfl,rfl⟩);go_wp2_with fail;refine cI.out.mono ?_;rintro e w2 ⟨rfl,K2,v2,P2⟩;have s1:w2.cell? ⟨M,1,none⟩=some (.int .i64 r.at_):=by have:=P2.c1;rw [j1.out] at this;exact this
 have f1:=P2.free 1;have hP2:=Hi P2;clear P2 cI q1;go_upto_region 11 with fail;have P3:RdAt (w2.setCell ⟨M,1,none⟩ (.int .i64 ((r.at_:Int)+1))) M B s { r3 with at_:=r.at_+1 } v2:=hP2.out.setAt (r.at_+1);have K3:=Hi (K2.setM hP2.out.bM 1 (.int .i64 ((r.at_:Int)+1)));clear hP2 s1 f1;generalize w2.setCell ⟨M,1,none⟩ (.int .i64 ((r.at_:Int)+1))=w3 at P3 K3 ⊢;have q1:w3.cell? ⟨M,1,none⟩=some (.int .i64 ((r.at_:Int)+1)):=P3.c1;have hP3:=Hi P3;have hl':=Hi hl;clear P3
 cases hL:letL ((bs s).drop (r.at_+1)) with
 | false=>
   have ca:=Hi (show Calls Tryz.prog 187 #[.pointer (some ⟨M,0,none⟩),.int .i64 ((r.at_:Int)+1)] w3 fun e w'=>e=.returned (.bool false)∧w3=w' from hL▸d_letterAt hP3.out (r.at_+1) (by omega))
   have cR:=Hi (d_refuse hP3.out (r.at_+1));obtain ⟨k1,k2,k3,k4,k5⟩:=refuse_eq { r3 with at_:=r.at_+1 } (r.at_+1);obtain ⟨r5,hr5⟩:∃ r5,R14.refuse { r3 with at_:=r.at_+1 } (r.at_+1)=r5:=⟨_,rfl⟩
   rw [hr5] at k1 k2 k3 k4 k5 cR;have k1:=Hi k1;have k2:=Hi k2;have k3:=Hi k3;have k4:=Hi k4;have k5:=Hi k5;have hL:=Hi hL;clear hr5 hP3;go_upto_region 12 with (go_at_call 187;refine ca.out.mono ?_;rintro e w' ⟨rfl,rfl⟩);go_wp2_with fail;refine cR.out.mono ?_;rintro e w5 ⟨rfl,K5,v5,P5⟩;have hP5:=Hi P5;have K5:=Hi (K3.out.trans K5);clear P5 cR ca;go_wp2_with fail;go_ret;have k4':r5.ns=r.ns:=k4.out.trans j4.out;have k1':r5.at_=r.at_+1:=k1.out;have k3':r5.dp=r.dp:=k3.out.trans j3.out;have k2':r5.it=r.it+1:=k2.out.trans j2.out;have hl2:=hl'.out;refine ⟨0,r5,⟨⟨⟨[],by rw [k4'];simp,by rw [k1'];simp;omega⟩,by rw [k4'];exact D'.out.ok,k3',by omega,by omega,by omega,fun _=>k5.out,fun q hq=>?_⟩,fun h=>absurd k5.out (by omega)⟩,rfl,K5.out,NewN.refl k4',v5,hP5.out⟩
   rw [H.out] at hq
   by_cases h48:48≤r.it
   ·rw [if_pos h48] at hq;cases hq
   ·rw [if_neg h48,if_pos hL.out] at hq;cases hq
 | true=>
   have ca:=Hi (show Calls Tryz.prog 187 #[.pointer (some ⟨M,0,none⟩),.int .i64 ((r.at_:Int)+1)] w3 fun e w'=>e=.returned (.bool true)∧w3=w' from hL▸d_letterAt hP3.out (r.at_+1) (by omega))
   have cN:=Hi (d_name hP3.out true (by show r.at_+1≤s.size;omega) hs (by show r3.ns.length≤_;rw [j4.out];omega))
   have hL:=Hi hL;clear hP3;go_upto_region 14 with (go_at_call 187;refine ca.out.mono ?_;rintro e w' ⟨rfl,rfl⟩);go_wp2_with fail;refine cN.out.mono ?_;rintro e w5 ⟨k,r',R,rfl,K5,N5,v5,P5⟩;have hnew:=Hi (NewN.trans (NewN.refl j4.out:NewN w.heap.size r { r3 with at_:=r.at_+1 }) N5 K3.out.below.size);clear N5;have hP5:=Hi P5;have K5:=Hi (K3.out.trans K5);have R:=Hi R;clear P5 cN ca;go_wp2_with fail;go_ret;obtain ⟨n,hn1,hn2,hn3⟩:=R.out.ns;have hn1:r'.ns=r.ns++[n]:=by rw [hn1];show r3.ns++_=_;rw [j4.out]
   have hlt:r.at_+1<r'.at_:=R.out.lt hL.out;have hle:r.at_+1≤r'.at_∧r'.at_≤s.size:=R.out.le;have hno:nameEnd ((bs s).drop (r.at_+1))=none→0≤r'.bad:=R.out.none_;have hso:∀ q,nameEnd ((bs s).drop (r.at_+1))=some q→r'.bad=r3.bad∧(bs s).drop r'.at_=q:=R.out.some_
   have hkk:k=r.ns.length:=by rw [R.out.k];show r3.ns.length=_;rw [j4.out]
   have hit2:r'.it=r.it+1:=R.out.it.trans j2.out;have hdp2:r'.dp=r.dp:=R.out.dp.trans j3.out;refine ⟨k,r',⟨⟨⟨[n],hn1,by simp;omega⟩,by rw [hn1];exact ok_snoc D'.out.ok (by omega),hdp2,by omega,by omega,by omega,fun h=>?_,fun q hq=>?_⟩,fun _=>⟨by rw [hn1,hkk,List.length_append];simp,by rw [hn1,hkk,wd_last (by rw [hn2];simp)];omega,by omega⟩⟩,rfl,K5.out,hnew.out,v5,hP5.out⟩
   ·rw [H.out] at h
    cases hne:nameEnd ((bs s).drop (r.at_+1)) with
    | none=>exact hno hne
    | some q=>
      by_cases h48:48≤r.it
      ·rw [(hso q hne).1];exact j5.out h48
      ·rw [if_neg h48,if_neg (by rw [hL.out];decide),hne] at h;cases h
   ·rw [H.out] at hq
    by_cases h48:48≤r.it
    ·rw [if_pos h48] at hq;cases hq
    ·rw [if_neg h48,if_neg (by rw [hL.out];decide)] at hq
     cases hne:nameEnd ((bs s).drop (r.at_+1)) with
     | none=>rw [hne] at hq;cases hq
     | some q2=>
       rw [hne] at hq
       cases hq
       obtain ⟨h1,h2⟩:=hso q2 hne;exact ⟨by rw [h1,j6.out h48];exact D'.out.bad,h2,hit2,by omega,hle.2⟩
structure PatR (s:ByteArray)(r r':R14)(o:Option (Bytes×Nat))(c k:Nat):Prop where
 D:DesR s r r' o c
 good:r'.bad<0→k<r'.ns.length∧wd r'.ns k≤r'.at_-r.at_+1
def PatIH (M B:Nat)(s:ByteArray)(f:Nat):Prop:=∀ (w:World) (r:R14) (v:Value),RdAt w M B s r v→DesP s r→4*((bs s).drop r.at_).length+4≤f →
 Calls Tryz.prog 107 #[.pointer (some ⟨M,0,none⟩)] w fun e w'=>∃ (k:Nat) (r':R14),PatR s r r' (des f .pat ((bs s).drop r.at_) r.it r.dp) 2 k∧PostW w M B s r r' k e w'
def LineIH (M B:Nat)(s:ByteArray)(f:Nat):Prop:=∀ (w:World) (r:R14) (v:Value),RdAt w M B s r v→DesP s r→4*((bs s).drop r.at_).length+3≤f →
 Calls Tryz.prog 137 #[.pointer (some ⟨M,0,none⟩)] w fun e w'=>∃ (k:Nat) (r':R14),PatR s r r' (des f .line ((bs s).drop r.at_) r.it r.dp) 1 k∧PostW w M B s r r' k e w'
theorem peek_past (s:ByteArray)(r:R14):(r.at_≤s.size→(r.peek s).at_≤s.size)∧(¬ r.at_≤s.size→(r.peek s).at_=r.at_)∧r.at_≤(r.peek s).at_:=by
 refine ⟨fun h=>(peek14_le s r h).2,fun h=>?_,Nat.le_add_right _ _⟩
 unfold R14.peek;dsimp only;rw [bs_drop_end s _ (by omega)];rfl
theorem d_atom_open {w:World}{M B:Nat}{s:ByteArray}{r:R14}{v:Value}{f:Nat}(IH:PatIH M B s f)(P:RdAt w M B s r v)(D:DesP s r)(hs:s.size≤300)(hl:r.at_<s.size)(hF:4*((bs s).drop r.at_).length+2≤f+1)(hc:s[r.at_].toNat=40) :
  Calls Tryz.prog 168 #[.pointer (some ⟨M,0,none⟩),.int .u8 s[r.at_].toNat] w fun e w'=>∃ (k:Nat) (r':R14),AtomR s r r' (des (f+1) .atom ((bs s).drop r.at_) r.it r.dp) k∧PostW w M B s r r' k e w':=by
 have H:=Hi (show des (f+1) .atom ((bs s).drop r.at_) r.it r.dp=(if 32≤r.dp then none else match des f .pat ((bs s).drop (r.at_+1)) r.it (r.dp+1) with
    | none=>none
    | some q=>match peekS q.1 with
      | []=>none
      | c2::r3=>if c2.toNat=41 then some (r3,q.2) else none) by
  rw [bs_drop s _ hl,des_atom,if_neg (by omega),if_neg (by unfold letterU;rw [hc];decide),if_neg (by omega),if_pos hc];first|done|rfl)
 rw [hc];have D':=Hi D;have hns:=D.ns;have hdp:=D.dp;have hit:=D.it;have q1:=P.c1;have q3:=P.c3;have cl:=Hi (fun (w:World)=>show Calls Tryz.prog 185 #[.int .u8 40] w fun e w'=>e=.returned (.bool false)∧w=w' from d_letter 40 w)
 by_cases h32:32≤r.dp
 ·have H2:=Hi (H.out.trans (if_pos h32));have b32:(r.dp:Int)≥32:=by omega
  have cI:=d_refuse P r.at_;obtain ⟨i1,i2,i3,i4,i5⟩:=refuse_eq r r.at_;obtain ⟨r3,hr3⟩:∃ r3,r.refuse r.at_=r3:=⟨_,rfl⟩
  rw [hr3] at i1 i2 i3 i4 i5 cI;have cI:=Hi cI;have j1:=Hi i1;have j2:=Hi i2;have j3:=Hi i3;have j4:=Hi i4;have j5:=Hi i5;clear i1 i2 i3 i4 i5 hr3 P D hc h32 H IH hF;go_enter Tryz.func168,Tryz.ntmps168;go_upto_region 17 with (go_at_call 185;refine (cl.out _).mono ?_;rintro e w' ⟨rfl,rfl⟩);go_wp2_with fail;refine cI.out.mono ?_;rintro e w2 ⟨rfl,K2,v2,P2⟩;have hP2:=Hi P2;clear P2 cI q1 q3;go_wp2_with fail;go_ret;exact ⟨0,r3,⟨⟨⟨[],by rw [j4.out];simp,by rw [j1.out];simp⟩,by rw [j4.out];exact D'.out.ok,j3.out,by rw [j1.out];exact Nat.le_refl _,by rw [j2.out];omega,by rw [j1.out,j3.out];have:=D'.out.at_;omega,fun _=>j5.out,fun q hq=>by rw [H2.out] at hq;cases hq⟩,fun h=>absurd j5.out (by omega)⟩,rfl,K2,NewN.refl j4.out,v2,hP2.out⟩
 have H1:=Hi (H.out.trans (if_neg h32));have b32:¬ (r.dp:Int)≥32:=by omega
 have f1:=P.free 1;have hlen:((bs s).drop r.at_).length=((bs s).drop (r.at_+1)).length+1:=by rw [bs_drop s _ hl];rfl
 have D4:DesP s { r with at_:=r.at_+1,dp:=r.dp+1 }:=⟨D.bad,hl,D.it,by show r.dp+1≤32;omega,D.ok,by show r.ns.length≤4*(r.at_+1);omega⟩
 obtain ⟨o,ho⟩:∃ o,des f .pat ((bs s).drop (r.at_+1)) r.it (r.dp+1)=o:=⟨_,rfl⟩
 have cI:=Hi (fun (w:World) (v:Value) (P:RdAt w M B s { r with at_:=r.at_+1,dp:=r.dp+1 } v)=>ho▸IH w _ v P D4 (show 4*((bs s).drop (r.at_+1)).length+4≤f by omega))
 rw [ho] at H1;have hP:=Hi P;have bw1:IntKind.i64.wrap ((r.at_:Int)+1)=(r.at_:Int)+1:=IntWalk.i64_in _ (by omega)
 have bw3:IntKind.i64.wrap ((r.dp:Int)+1)=(r.dp:Int)+1:=IntWalk.i64_in _ (by omega)
 have hl':=Hi hl;clear P D hc h32 H IH hF ho hlen D4;go_enter Tryz.func168,Tryz.ntmps168;go_upto_region 20 with (go_at_call 185;refine (cl.out _).mono ?_;rintro e w' ⟨rfl,rfl⟩);have P3:RdAt (w.setCell ⟨M,1,none⟩ (.int .i64 ((r.at_:Int)+1))) M B s { r with at_:=r.at_+1 } v:=hP.out.setAt (r.at_+1);have K3:=Hi ((K14.refl B M w).setM hP.out.bM 1 (.int .i64 ((r.at_:Int)+1)));clear hP q1 q3 f1;generalize w.setCell ⟨M,1,none⟩ (.int .i64 ((r.at_:Int)+1))=w3 at P3 K3 ⊢;have q3:w3.cell? ⟨M,3,none⟩=some (.int .i64 r.dp):=P3.c3;have f3:=P3.free 3;have hP3:=Hi P3;clear P3;go_upto_region 21 with fail;have P4:RdAt (w3.setCell ⟨M,3,none⟩ (.int .i64 ((r.dp:Int)+1))) M B s { r with at_:=r.at_+1,dp:=r.dp+1 } v:=hP3.out.setDp (r.dp+1);have K4:=Hi (K3.out.setM hP3.out.bM 3 (.int .i64 ((r.dp:Int)+1)));clear hP3 q3 f3 K3;generalize w3.setCell ⟨M,3,none⟩ (.int .i64 ((r.dp:Int)+1))=w4 at P4 K4 ⊢;have cJ:=Hi (cI.out w4 v P4);clear P4 cI;go_wp2_with fail;refine cJ.out.mono ?_;rintro e w5 ⟨k,r5,R5,rfl,K5,N5,v5,P5⟩;have hnew:=Hi (NewN.trans (NewN.refl rfl:NewN w.heap.size r { r with at_:=r.at_+1,dp:=r.dp+1 }) N5 K4.out.below.size);clear N5;have hD5:r5.dp=r.dp+1:=R5.D.dp;have htop:r5.at_+r5.dp≤s.size+33:=R5.D.top;have hle5:r.at_+1≤r5.at_:=R5.D.le;obtain ⟨t5,ht5,htl5⟩:=R5.D.ns;have ht5:r5.ns=r.ns++t5:=ht5;have htl5:t5.length+4*(r.at_+1)≤4*r5.at_+2:=htl5;have cp:=d_peek P5 (by omega) (by omega)
 have K5:=Hi (K4.out.trans K5);obtain ⟨pp1,pp2,pp3⟩:=peek_past s r5;have hpk:=peek14 s r5;obtain ⟨r6,hr6⟩:∃ r6,r5.peek s=r6:=⟨_,rfl⟩
 have e6:r6.it=r5.it∧r6.dp=r5.dp∧r6.bad=r5.bad∧r6.ns=r5.ns:=by rw [← hr6];exact ⟨rfl,rfl,rfl,rfl⟩
 rw [hr6] at cp hpk pp1 pp2 pp3;obtain ⟨x1,x2,x3,x4⟩:=e6
 have h6:r6.at_+1+r.dp≤s.size+33:=by
  by_cases h:r5.at_≤s.size
  ·have:=pp1 h;omega
  ·have:=pp2 h;omega
 obtain ⟨hd,hhd⟩:∃ hd,headN (peekS ((bs s).drop r5.at_))=hd:=⟨_,rfl⟩
 rw [hhd] at cp;have Hhd:=Hi hhd;have y1:=Hi x1;have y2:=Hi x2;have y3:=Hi x3;have y4:=Hi x4;have Hpk:=Hi hpk;have RR5:=Hi R5;have Ht5:=Hi ht5;have HD5:=Hi hD5;have Pp2:=Hi pp2;have Pp1:=Hi pp1;have b5:r5.dp≤33:=by omega
 clear x1 x2 x3 x4 hhd hpk R5 ht5 hD5 pp2 pp1;have cp:=Hi cp;clear hr6 P5 cJ K4;go_wp2_with fail;refine cp.out.mono ?_;rintro e w6 ⟨rfl,K6,P6⟩;have K6:=Hi (K5.out.trans K6);have bw6:IntKind.i64.wrap ((r6.at_:Int)+1)=(r6.at_:Int)+1:=IntWalk.i64_in _ (by omega)
 clear cp K5;have hP6:=Hi P6;clear P6
 by_cases h41:hd=41
 ·have d41:((hd:Int) != 41)=false:=by rw [h41];rfl
  have H41:=Hi h41;clear h41;have s1:w6.cell? ⟨M,1,none⟩=some (.int .i64 r6.at_):=by have:=hP6.out.c1;exact this
  have f1:=hP6.out.free 1;go_upto_region 26 with fail;have P7:RdAt (w6.setCell ⟨M,1,none⟩ (.int .i64 ((r6.at_:Int)+1))) M B s { r6 with at_:=r6.at_+1 } _:=hP6.out.setAt (r6.at_+1);have K7:=Hi (K6.out.setM hP6.out.bM 1 (.int .i64 ((r6.at_:Int)+1)));clear hP6 s1 f1 K6;generalize w6.setCell ⟨M,1,none⟩ (.int .i64 ((r6.at_:Int)+1))=w7 at P7 K7 ⊢;have s3:w7.cell? ⟨M,3,none⟩=some (.int .i64 ((r.dp:Int)+1)):=by have:=P7.c3;rw [show ({ r6 with at_:=r6.at_+1 }:R14).dp=r.dp+1 from y2.out.trans HD5.out] at this;exact this
  have f3:=P7.free 3;have bw8:IntKind.i64.wrap ((r.dp:Int)+1-1)=(r.dp:Int):=(congrArg _ (by omega)).trans (IntWalk.i64_in _ (by omega))
  have bw9:IntKind.i64.wrap (r.dp:Int)=(r.dp:Int):=IntWalk.i64_in _ (by omega)
  have hP7:=Hi P7;clear P7;go_wp2_with fail;go_ret;have P8:=hP7.out.setDp r.dp;have K8:=K7.out.setM hP7.out.bM 3 (.int .i64 (r.dp:Int));refine ⟨k,{ r6 with at_:=r6.at_+1,dp:=r.dp },⟨⟨⟨t5,by show r6.ns=_;rw [y4.out,Ht5.out],by show t5.length+4*r.at_≤4*(r6.at_+1)+0;omega⟩,by show NodeOK r6.ns;rw [y4.out];exact RR5.out.D.ok,rfl,by show r.at_≤r6.at_+1;omega,by show r6.it≤49;rw [y1.out];exact RR5.out.D.it,h6,fun ho=>?_,fun q hq=>?_⟩,fun hb=>?_⟩,rfl,K8,hnew.out.of_ns y4.out,_,P8⟩
  ·show 0≤r6.bad
   rw [y3.out];rw [H1.out] at ho
   cases hoo:o with
   | none=>exact RR5.out.D.none_ hoo
   | some q5=>
     obtain ⟨u1,u2,u3,u4,u5⟩:=RR5.out.D.some_ q5 hoo;exfalso;rw [hoo] at ho;dsimp only at ho;have hh:=Hhd.out;rw [u2] at hh
     cases hpk:peekS q5.1 with
     | nil=>rw [hpk,H41.out] at hh;exact absurd hh (by decide)
     | cons c2 r3=>
       rw [hpk] at hh ho;have hc2:c2.toNat=41:=hh.trans H41.out;dsimp only at ho;rw [if_pos hc2] at ho
       cases ho
  ·rw [H1.out] at hq
   cases hoo:o with
   | none=>rw [hoo] at hq;cases hq
   | some q5=>
     obtain ⟨u1,u2,u3,u4,u5⟩:=RR5.out.D.some_ q5 hoo;rw [hoo] at hq;dsimp only at hq;have hk6:=Hpk.out;rw [u2] at hk6
     cases hpk:peekS q5.1 with
     | nil=>rw [hpk] at hq;cases hq
     | cons c2 r3=>
       rw [hpk] at hq hk6;dsimp only at hq
       have h6s:r6.at_<s.size:=by
        by_cases h:r6.at_<s.size
        ·exact h
        ·rw [bs_drop_end s _ h] at hk6;cases hk6
       rw [bs_drop s _ h6s] at hk6
       cases hk6
       by_cases hc2:s[r6.at_].toNat=41
       ·rw [if_pos hc2] at hq
        cases hq
        exact ⟨by show r6.bad<0;rw [y3.out];exact u1,rfl,by show r6.it=_;rw [y1.out];exact u3,by show r6.it≤48;rw [y1.out];exact u4,h6s⟩
       ·rw [if_neg hc2] at hq;cases hq
  ·have hb5:r5.bad<0:=by rw [← y3.out];exact hb
   obtain ⟨g1,g2⟩:=RR5.out.good hb5;have g2:wd r5.ns k≤r5.at_-(r.at_+1)+1:=g2;exact ⟨by show k<r6.ns.length;rw [y4.out];exact g1,by show wd r6.ns k≤r6.at_+1-r.at_;rw [y4.out];omega,by show r.at_<r6.at_+1;omega⟩
 ·have d41:((hd:Int) != 41)=true:=by simp;omega
  have cI:=d_refuse hP6.out r6.at_;obtain ⟨i1,i2,i3,i4,i5⟩:=refuse_eq r6 r6.at_;obtain ⟨r7,hr7⟩:∃ r7,r6.refuse r6.at_=r7:=⟨_,rfl⟩
  rw [hr7] at i1 i2 i3 i4 i5 cI;have cI:=Hi cI;have e7at:=Hi i1;have e7dp:=Hi (i3.trans (y2.out.trans HD5.out));have j2:=Hi i2;have j4:=Hi i4;have j5:=Hi i5;have q1:=hP6.out.c1;have H41:=Hi h41;clear i1 i2 i3 i4 i5 hr7 h41 hP6;go_wp2_with fail;refine cI.out.mono ?_;rintro e w61 ⟨rfl,K61,v61,P61⟩;have hP61:=Hi P61;have K61:=Hi (K6.out.trans K61);clear P61 cI q1 K6;have s1:w61.cell? ⟨M,1,none⟩=some (.int .i64 r6.at_):=by have:=hP61.out.c1;rw [e7at.out] at this;exact this
  have f1:=hP61.out.free 1;go_upto_region 26 with fail;have P7:RdAt (w61.setCell ⟨M,1,none⟩ (.int .i64 ((r6.at_:Int)+1))) M B s { r7 with at_:=r6.at_+1 } _:=hP61.out.setAt (r6.at_+1);have K7:=Hi (K61.out.setM hP61.out.bM 1 (.int .i64 ((r6.at_:Int)+1)));clear hP61 s1 f1 K61;generalize w61.setCell ⟨M,1,none⟩ (.int .i64 ((r6.at_:Int)+1))=w7 at P7 K7 ⊢;have s3:w7.cell? ⟨M,3,none⟩=some (.int .i64 ((r.dp:Int)+1)):=by have:=P7.c3;rw [show ({ r7 with at_:=r6.at_+1 }:R14).dp=r.dp+1 from e7dp.out] at this;exact this
  have f3:=P7.free 3;have bw8:IntKind.i64.wrap ((r.dp:Int)+1-1)=(r.dp:Int):=(congrArg _ (by omega)).trans (IntWalk.i64_in _ (by omega))
  have bw9:IntKind.i64.wrap (r.dp:Int)=(r.dp:Int):=IntWalk.i64_in _ (by omega)
  have hP7:=Hi P7;clear P7;go_wp2_with fail;go_ret;have P8:=hP7.out.setDp r.dp;have K8:=K7.out.setM hP7.out.bM 3 (.int .i64 (r.dp:Int));refine ⟨k,{ r7 with at_:=r6.at_+1,dp:=r.dp },⟨⟨⟨t5,by show r7.ns=_;rw [j4.out,y4.out,Ht5.out],by show t5.length+4*r.at_≤4*(r6.at_+1)+0;omega⟩,by show NodeOK r7.ns;rw [j4.out,y4.out];exact RR5.out.D.ok,rfl,by show r.at_≤r6.at_+1;omega,by show r7.it≤49;rw [j2.out,y1.out];exact RR5.out.D.it,h6,fun _=>j5.out,fun q hq=>?_⟩,fun hb=>absurd j5.out (by have hb:r7.bad<0:=hb;omega)⟩,rfl,K8,hnew.out.of_ns (j4.out.trans y4.out),_,P8⟩
  exfalso;rw [H1.out] at hq
  cases hoo:o with
  | none=>rw [hoo] at hq;cases hq
  | some q5=>
    obtain ⟨u1,u2,u3,u4,u5⟩:=RR5.out.D.some_ q5 hoo;rw [hoo] at hq;dsimp only at hq;have hh:=Hhd.out;rw [u2] at hh
    cases hpk:peekS q5.1 with
    | nil=>rw [hpk] at hq;cases hq
    | cons c2 r3=>
      rw [hpk] at hq hh;dsimp only at hq;have hc2:¬ c2.toNat=41:=fun h=>H41.out (hh.symm.trans h)
      rw [if_neg hc2] at hq;cases hq
theorem d_atom {w:World}{M B:Nat}{s:ByteArray}{r:R14}{v:Value}{f:Nat}(IH:PatIH M B s f)(P:RdAt w M B s r v)(D:DesP s r)(hs:s.size≤300)(hl:r.at_<s.size)(hF:4*((bs s).drop r.at_).length+2≤f+1) :
  Calls Tryz.prog 168 #[.pointer (some ⟨M,0,none⟩),.int .u8 s[r.at_].toNat] w fun e w'=>∃ (k:Nat) (r':R14),AtomR s r r' (des (f+1) .atom ((bs s).drop r.at_) r.it r.dp) k∧PostW w M B s r r' k e w':=by
 by_cases h1:s[r.at_].toNat=46
 ·exact d_atom_dot P D hs hl f h1
 cases h2:letterN s[r.at_].toNat
 rotate_left
 ·exact d_atom_name P D hs hl f h1 h2
 by_cases h3:s[r.at_].toNat=33
 ·exact d_atom_not P D hs hl f h3
 by_cases h4:s[r.at_].toNat=40
 ·exact d_atom_open IH P D hs hl hF h4
 ·exact d_atom_bad P D hs hl f h1 h2 h3 h4
theorem des_line (f:Nat)(r:Bytes)(it d:Nat):des (f+1) .line r it d=match peekS r with
  | []=>some ([],it)
  | c::r2=>if c.toNat=124∨c.toNat=41 then some (c::r2,it) else match des f .atom (c::r2) it d with
    | none=>none
    | some q=>match des f .suf q.1 q.2 d with
      | none=>none
      | some u=>des f .line u.1 u.2 d:=rfl
structure KsI (r rr:R14)(ks:List Nat)(m c:Nat):Prop where
 lt:∀ k∈ks,k<rr.ns.length
 sum:sumW rr.ns ks≤m
 ns:∃ t,rr.ns=r.ns++t∧t.length+4*r.at_≤4*rr.at_+c
 ok:NodeOK rr.ns
 dp:rr.dp=r.dp
 le:r.at_≤rr.at_
 it:rr.it≤49
theorem row_kept {B M base:Nat}{w w':World}{v:Value}{ks:List Nat}(h:w.ownsRow base 3 1 v ks.length (intsV ks))(hM:∀ cs fz,w.heap[M]?≠some (.cells cs 3 fz))(k:K14 B M w w'):w'.ownsRow base 3 1 v ks.length (intsV ks):=
 own_heap h fun g hg=>by
  obtain ⟨c,fz,hb⟩:=Lib.ownsRow_kind h g hg;exact k.kept g c _ fz hb (fun e=>hM c fz (e▸hb)) (by decide)
theorem IntsIn.kept1 {w w':World}{v:Value}{ks:List Nat}(h:IntsIn w v ks)(hw:∀ g,v.ownBlock=some g→w'.heap[g]?=w.heap[g]?):IntsIn w' v ks:=by
 rcases h with h|⟨g,cap,cs,fz,hne,rfl,hb,hc⟩
 ·exact .inl h
 ·have e:=hw g rfl;exact .inr ⟨g,cap,cs,fz,hne,rfl,e.trans hb,fun j k hj=>by rw [World.cell?_of_block (a:=⟨g,j,none⟩) e];exact hc j k hj⟩
theorem IntsIn.lt {w:World}{v:Value}{ks:List Nat}(h:IntsIn w v ks){g:Nat}(hg:v.ownBlock=some g):g<w.heap.size:=by
 rcases h with ⟨rfl,_⟩|⟨g',cap,cs,fz,hne,rfl,hb,hc⟩
 ·cases hg
 ·cases hg;exact (Array.getElem?_eq_some_iff.1 hb).1
def Apart (ns:List N14)(u:Value):Prop:=∀ n∈ns,∀ g,n.kv.ownBlock=some g→u.ownBlock≠some g
theorem RdAt.beside {W w7:World}{M B base n:Nat}{s:ByteArray}{r:R14}{v u:Value}{xs:List Value}(P:RdAt W M B s r v)(ho:W.ownsRow base 3 1 u n xs)(hM:M<base)(ha:Apart r.ns u)(hg:W.grownBy w7 u.ownBlock):RdAt w7 M B s r v where
 box:=(hg.block M P.lt (fun e=>by have:=(ho.lt M e.symm).1;omega)).trans P.box
 bM:=P.bM
 row:=P.row.kept hg (by
  cases hv:v.ownBlock with
  | none=>exact .inl rfl
  | some g=>
    refine .inr fun e=>?_
    obtain ⟨c1,f1,h1⟩:=Lib.ownsRow_kind P.row g hv;obtain ⟨c2,f2,h2⟩:=Lib.ownsRow_kind ho g e.symm;rw [h1] at h2;simp at h2)
 kids:=fun n hn=>(P.kids n hn).kept1 fun g hgk=>hg.block g ((P.kids n hn).lt hgk) (fun e=>ha n hn g hgk e.symm)
theorem K14.beside {w W w7:World}{B M n:Nat}{u:Value}{xs:List Value}(k:K14 B M w W)(hB:B≤w.heap.size)(ho:W.ownsRow w.heap.size 3 1 u n xs)(hg:W.grownBy w7 u.ownBlock):K14 B M w w7:=
 ⟨k.below.grown hg (Nat.le_trans hB k.below.size) (fun i hi=>Nat.le_trans hB (ho.lt i hi).1),fun b cs T fz hb hn hT=>by
  have e:=k.kept b cs T fz hb hn hT;have hbl:=(Array.getElem?_eq_some_iff.1 hb).1;exact (hg.block b (Nat.lt_of_lt_of_le hbl k.below.size) (fun e=>by have:=(ho.lt b e.symm).1;omega)).trans e⟩
theorem Apart.new {N:Nat}{r r':R14}{u:Value}(h:Apart r.ns u)(hn:NewN N r r')(hu:∀ g,u.ownBlock=some g→g<N):Apart r'.ns u:=fun n hm g hg=>by
 rcases hn n hm with hx|hx
 ·exact h n hx g hg
 ·intro e;have:=hu g e;have:=hx g hg;omega
theorem sumW_snoc (ns:List N14)(ks:List Nat)(k:Nat):sumW ns (ks++[k])=sumW ns ks+wd ns k:=by
 unfold sumW;rw [List.map_append,List.sum_append];simp
structure LineI (s:ByteArray)(r rr:R14)(ks:List Nat)(o:Option (Bytes×Nat))(n N:Nat):Prop where
 new:NewN N r rr
 K:KsI r rr ks (rr.at_-r.at_) 0
 le:rr.at_≤s.size
 st:(rr.bad<0∧rr.it≤48∧∃ f,o=des f .line ((bs s).drop rr.at_) rr.it r.dp∧4*((bs s).drop rr.at_).length+3≤f∧f≤n)∨(0≤rr.bad∧o=none)
theorem join_pat {s:ByteArray}{r rr r':R14}{ks:List Nat}{o:Option (Bytes×Nat)}{k m c e:Nat}(K:KsI r rr ks m e)(J:JoinR rr r' ks k)(hm:m≤rr.at_-r.at_+1)(htop:rr.at_+rr.dp≤s.size+33)
  (hno:o=none→0≤rr.bad) (hso:∀ q,o=some q→rr.bad<0∧(bs s).drop rr.at_=q.1∧rr.it=q.2∧rr.it≤48∧rr.at_≤s.size) (hc:e+1≤c):PatR s r r' o c k:=by
 obtain ⟨t,ht,htl⟩:=K.ns;obtain ⟨t2,ht2,htl2⟩:=J.ns;have e1:r'.at_=rr.at_:=by rw [ht2]
 have e2:r'.it=rr.it:=by rw [ht2]
 have e3:r'.dp=rr.dp:=by rw [ht2]
 have e4:r'.bad=rr.bad:=by rw [ht2]
 have e5:r'.ns=rr.ns++t2:=by rw [ht2]
 refine ⟨⟨⟨t++t2,by rw [e5,ht,List.append_assoc],by rw [List.length_append,e1];omega⟩,J.ok,e3.trans K.dp,by rw [e1];exact K.le,by rw [e2];exact K.it,by rw [e1,e3];exact htop,fun h=>by rw [e4];exact hno h,fun q hq=>by rw [e1,e2,e4];exact hso q hq⟩,fun _=>⟨J.lt,?_⟩⟩
 have h1:=J.wd_;have h2:=K.sum;rw [e1];omega
theorem d_line {M B:Nat}{s:ByteArray}{n:Nat}(IH:∀ k,k<n→PatIH M B s k)(hs:s.size≤300):LineIH M B s n:=by
 intro w r v P D hF;obtain ⟨o,ho⟩:∃ o,des n .line ((bs s).drop r.at_) r.it r.dp=o:=⟨_,rfl⟩
 have I0:LineI s r r [] o n w.heap.size:=⟨NewN.refl rfl,⟨(fun k hk=>by cases hk),Nat.zero_le _,⟨[],by simp,by simp⟩,D.ok,rfl,Nat.le_refl _,Nat.le_succ_of_le D.it⟩,D.at_,.inl ⟨D.bad,D.it,n,ho.symm,hF,Nat.le_refl _⟩⟩
 rw [ho];have I0:=Hi I0;have hP:=Hi P;have hdp:=D.dp;have hns:=D.ns;have hIH:=Hi IH;obtain ⟨i0,hi0,hz0,hz1,hz2⟩:=info_parts int_info;have gi0:=Hi hi0;have gz0:=Hi hz0;have gz1:=Hi hz1;have gz2:=Hi hz2;have hMB:=P.bM;have hMl:=P.lt;clear P D hF ho IH hi0 hz0 hz1 hz2;go_enter Tryz.func137,Tryz.ntmps137;go_wp2_with fail
 go_loopw [3] (fun a wr=>∃ (rr:R14) (vv:Value) (ks:List Nat),Hid (RdAt wr M B s rr vv)∧Hid (LineI s r rr ks o n w.heap.size)∧Hid (Apart rr.ns a)∧Hid (K14 B M w wr)∧Hid (wr.ownsRow w.heap.size 3 1 a ks.length (intsV ks))∧(ks=[]→a=.slice none 0 0)) (fun _ wr=>mu14 M s.size wr)
 case atStart=>exact ⟨r,v,[],hP,I0,Hi (fun n hn g hg e=>by cases e),Hi (K14.refl _ _ _),Hi ⟨by simp [intsV],.inl ⟨rfl,rfl⟩⟩,fun _=>rfl⟩
 case round=>
  obtain ⟨rr,vv,ks,Q,I,AP,K,O,hnil⟩:=hrel;obtain ⟨wq,rfl⟩:∃ wq,wq=wr:=⟨_,rfl⟩
  have hmu:=Q.out.mu s.size;have q4:=Q.out.c4;have hle:=I.out.le;have hle2:=I.out.K.le;have Hnil:=Hi hnil;have hrd:rr.dp≤32:=by have:=I.out.K.dp;omega
  clear hnil
  have hnsl:rr.ns.length≤4*rr.at_:=by
   obtain ⟨t,ht,htl⟩:=I.out.K.ns;rw [ht,List.length_append];omega
  clear hP I0;rcases I.out.st with ⟨hbad,hit,f,hof,hff,hfn⟩|⟨hbad,hon⟩
  ·rw [if_pos hbad] at hmu;have Hmu:=Hi hmu;have bb:rr.bad<0:=hbad;have cp:=d_peek Q.out (by omega) (by omega)
   obtain ⟨f,rfl⟩:∃ f',f=f'+1:=⟨f-1,by omega⟩
   rw [des_line] at hof;have hpk:=peek14 s rr;have hpl:=peek14_le s rr hle;have hpp:=peek_len ((bs s).drop rr.at_);obtain ⟨r1,hr1⟩:∃ r1,rr.peek s=r1:=⟨_,rfl⟩
   have e1:r1.it=rr.it∧r1.dp=rr.dp∧r1.bad=rr.bad∧r1.ns=rr.ns:=by rw [← hr1];exact ⟨rfl,rfl,rfl,rfl⟩
   rw [hr1] at cp hpk hpl;obtain ⟨x1,x2,x3,x4⟩:=e1;have y1:=Hi x1;have y2:=Hi x2;have y3:=Hi x3;have y4:=Hi x4;have Hbad:=Hi hbad;have Hit:=Hi hit;have Hff:=Hi hff;clear hr1 x1 x2 x3 x4 hbad hit hmu
   cases hpe:peekS ((bs s).drop rr.at_) with
   | nil=>
     rw [hpe] at cp hof hpk;have cp:Hid (Calls Tryz.prog 138 #[.pointer (some ⟨M,0,none⟩)] wq fun e w'=>e=.returned (.int .u8 0)∧K14 B M wq w'∧RdAt w' M B s r1 vv):=cp
     have Hof:=Hi hof;have Hpk:=Hi hpk
     have hge:s.size≤r1.at_:=by
      by_cases h:r1.at_<s.size
      ·rw [bs_drop s _ h] at hpk;cases hpk
      ·omega
     have c1:decide (s.size≤r1.at_)=true:=decide_eq_true hge;clear hpe hpp hof hpk;go_wp2_with fail;refine cp.out.mono ?_;rintro e w1 ⟨rfl,K1,P1⟩;have O1:=row_kept O.out Q.out.noint K1;have K1:=K.out.trans K1;have q0:=P1.c0;have q1:=P1.c1;have hP1:=Hi P1;clear P1 cp;go_wp2_with fail;go_quiet (fail);have P2:=Hi (hP1.out.qt (Qt.self w1 nq));have O1:=Hi (own_below O1 ((Qt.self w1 nq).below _));have K2:=Hi (K1.trans (K14.qt (Qt.self w1 nq)));clear hP1 K1 q0 q1;generalize w1.drewN nq=w2 at P2 O1 K2 ⊢;obtain ⟨A,m,c0,rfl⟩:=(ints_row O1.out Hnil.out).shape;have cJ:=Hi (d_join P2.out 4 (.inl rfl) (ints_row O1.out Hnil.out) (by rw [y4.out];exact I.out.K.lt) (by rw [y4.out];exact I.out.K.ok) (by rw [y4.out];have:=I.out.K.sum;omega) (by rw [y4.out];omega))
     go_wp2_with fail;refine cJ.out.mono ?_;rintro e w3 ⟨k,r',J,rfl,K3,N3,v3,P3⟩;have N3:=Hi (NewN.trans (I.out.new.of_ns y4.out) N3 K2.out.below.size);have hP3:=Hi P3;have K3:=Hi (K2.out.trans K3);have J:=Hi J;clear P3 cJ;go_wp2_with fail;go_ret;obtain ⟨t,ht,htl⟩:=I.out.K.ns;exact ⟨k,r',join_pat (m:=rr.at_-r.at_) (e:=0) ⟨by rw [y4.out];exact I.out.K.lt,by rw [y4.out];exact I.out.K.sum,⟨t,by rw [y4.out];exact ht,by omega⟩,by rw [y4.out];exact I.out.K.ok,y2.out.trans I.out.K.dp,by omega,by rw [y1.out];exact I.out.K.it⟩ J.out (by omega) (by rw [y2.out];omega) (fun h=>by rw [Hof.out] at h;cases h) (fun q hq=>by rw [Hof.out] at hq;cases hq;exact ⟨by rw [y3.out];exact Hbad.out,Hpk.out,y1.out,by rw [y1.out];exact Hit.out,hpl.2⟩) (Nat.le_refl _),rfl,K3.out,N3.out,v3,hP3.out⟩
   | cons c r2=>
     rw [hpe] at cp hof hpk hpp;have cp:Hid (Calls Tryz.prog 138 #[.pointer (some ⟨M,0,none⟩)] wq fun e w'=>e=.returned (.int .u8 (c.toNat:Nat))∧K14 B M wq w'∧RdAt w' M B s r1 vv):=cp
     have hlt1:r1.at_<s.size:=by
      by_cases h:r1.at_<s.size
      ·exact h
      ·rw [bs_drop_end s _ h] at hpk;cases hpk
     have hcs:c=s[r1.at_]:=by rw [bs_drop s _ hlt1] at hpk;cases hpk;rfl
     have c1:decide (s.size≤r1.at_)=false:=by rw [decide_eq_false_iff_not];omega
     dsimp only at hof;have Hpk:=Hi hpk;have Hpp:=Hi hpp
     by_cases hbr:c.toNat=124∨c.toNat=41
     ·rw [if_pos hbr] at hof;have Hof:=Hi hof;clear hpe hpp hof hpk hcs;rcases hbr with hc|hc
      all_goals (
       rw [hc] at cp;go_wp2_with fail;refine cp.out.mono ?_;rintro e w1 ⟨rfl,K1,P1⟩;have O1:=row_kept O.out Q.out.noint K1;have K1:=K.out.trans K1;have q0:=P1.c0;have q1:=P1.c1;have hP1:=Hi P1;clear P1 cp;go_wp2_with fail;go_quiet (fail);have P2:=Hi (hP1.out.qt (Qt.self w1 nq));have O1:=Hi (own_below O1 ((Qt.self w1 nq).below _));have K2:=Hi (K1.trans (K14.qt (Qt.self w1 nq)));clear hP1 K1 q0 q1;generalize w1.drewN nq=w2 at P2 O1 K2 ⊢;obtain ⟨A,m,c0,rfl⟩:=(ints_row O1.out Hnil.out).shape;have cJ:=Hi (d_join P2.out 4 (.inl rfl) (ints_row O1.out Hnil.out) (by rw [y4.out];exact I.out.K.lt) (by rw [y4.out];exact I.out.K.ok) (by rw [y4.out];have:=I.out.K.sum;omega) (by rw [y4.out];omega))
       go_wp2_with fail;refine cJ.out.mono ?_;rintro e w3 ⟨k,r',J,rfl,K3,N3,v3,P3⟩;have N3:=Hi (NewN.trans (I.out.new.of_ns y4.out) N3 K2.out.below.size);have hP3:=Hi P3;have K3:=Hi (K2.out.trans K3);have J:=Hi J;clear P3 cJ;go_wp2_with fail;go_ret;obtain ⟨t,ht,htl⟩:=I.out.K.ns;exact ⟨k,r',join_pat (m:=rr.at_-r.at_) (e:=0) ⟨by rw [y4.out];exact I.out.K.lt,by rw [y4.out];exact I.out.K.sum,⟨t,by rw [y4.out];exact ht,by omega⟩,by rw [y4.out];exact I.out.K.ok,y2.out.trans I.out.K.dp,by omega,by rw [y1.out];exact I.out.K.it⟩ J.out (by omega) (by rw [y2.out];omega) (fun h=>by rw [Hof.out] at h;cases h) (fun q hq=>by rw [Hof.out] at hq;cases hq;exact ⟨by rw [y3.out];exact Hbad.out,Hpk.out,y1.out,by rw [y1.out];exact Hit.out,hpl.2⟩) (Nat.le_refl _),rfl,K3.out,N3.out,v3,hP3.out⟩
       skip)
     ·rw [if_neg hbr] at hof;have d124:((c.toNat:Int) == 124)=false:=by rw [beq_eq_false_iff_ne];omega
      have d41:((c.toNat:Int) == 41)=false:=by rw [beq_eq_false_iff_ne];omega
      have hlen1:1≤((bs s).drop r1.at_).length:=by rw [hpk];simp
      have hlen2:((bs s).drop r1.at_).length≤((bs s).drop rr.at_).length:=by rw [hpk];exact hpp
      rw [← hpk] at hof;have Hof:=Hi hof;obtain ⟨f0,rfl⟩:∃ f0,f=f0+1:=⟨f-1,by have:=Hff.out;omega⟩
      have Hcs:=Hi hcs;have D1:DesP s r1:=⟨by rw [y3.out];exact Hbad.out,hpl.2,by rw [y1.out];exact Hit.out,by rw [y2.out];exact hrd,by rw [y4.out];exact I.out.K.ok,by rw [y4.out];omega⟩
      have cA:=Hi (fun (W:World) (V:Value) (P:RdAt W M B s r1 V)=>d_atom (hIH.out f0 (by omega)) P D1 hs hlt1 (by have:=Hff.out;omega))
      clear hpe hpp hof hpk hbr;go_wp2_with fail;refine cp.out.mono ?_;rintro e w1 ⟨rfl,K1,P1⟩;have O1:=row_kept O.out Q.out.noint K1;have K1:=K.out.trans K1;have q0:=P1.c0;have q1:=P1.c1;have hP1:=Hi P1;clear P1 cp hcs;go_upto_region 4 with fail
      go_cut [34] from 6 to 49 (fun v wx=>v=.bool false∧Qt w1 wx)
      case first=>
       by_cases hc0:c.toNat=0
       ·have d0:((c.toNat:Int) == 0)=true:=by rw [hc0];rfl
        clear hc0;go_quiet (fail);go_wp2_with fail;go_meet;exact ⟨rfl,Qt.self _ _⟩
       ·have d0:((c.toNat:Int) == 0)=false:=by rw [beq_eq_false_iff_ne];omega
        clear hc0;go_quiet (fail);go_wp2_with fail;go_meet;exact ⟨rfl,Qt.self _ _⟩
      case rest=>
      obtain ⟨rfl,hq⟩:=hcut;have P2:=hP1.out.qt hq;have O2:=own_below O1 (hq.below _);have K2:=Hi (K1.trans (K14.qt hq));have cB:=cA.out _ _ P2;rw [← Hcs.out] at cB;have cB:=Hi cB;have O2:=Hi O2;have nI:=Hi P2.noint;clear hP1 O1 K1 q0 q1 hq P2 cA d124 d41;obtain ⟨oA,hoA⟩:∃ oA,des (f0+1) .atom ((bs s).drop r1.at_) r1.it r1.dp=oA:=⟨_,rfl⟩
      have cB:=cB.out;rw [hoA] at cB;have hoA:des (f0+1) .atom ((bs s).drop r1.at_) rr.it r.dp=oA:=by rw [← y1.out,← I.out.K.dp,← y2.out];exact hoA
      have Hof:=Hof.out;rw [hoA] at Hof;have HofA:=Hi Hof;have cB:=Hi cB;clear hoA Hof;go_wp2_with fail;refine cB.out.mono ?_;rintro e w3 ⟨k5,r5,R5,rfl,K5,N5,v5,P5⟩;have AP5:=Hi (Apart.new (r:=r1) (show Apart r1.ns u3 by rw [y4.out];exact AP.out) N5 (fun g hg=>(O2.out.lt g hg).2))
      have N5:=Hi (NewN.trans (I.out.new.of_ns y4.out) N5 K2.below.size);have O5:=row_kept O2.out nI.out K5;have K5:=K2.out.trans K5;have q4:=P5.c4;have h15:r1.at_≤r5.at_:=R5.D.le;have htop5:r5.at_+r5.dp≤s.size+33:=R5.D.top;obtain ⟨t,ht,htl⟩:=I.out.K.ns;obtain ⟨t5,ht5,htl5⟩:=R5.D.ns;have hns5:r5.ns=r.ns++(t++t5):=by rw [ht5,y4.out,ht,List.append_assoc]
      have hdp5:r5.dp=r.dp:=R5.D.dp.trans (y2.out.trans I.out.K.dp);have Hns5:=Hi hns5;have Ht:=Hi ht;have Ht5:=Hi ht5;have Hdp5:=Hi hdp5;have RR5:=Hi R5;have hP5:=Hi P5;have O5:=Hi O5;have K5:=Hi K5;clear P5 cB K2 O2 hns5 ht ht5 hdp5 R5 nI
      by_cases hb5:r5.bad<0
      rotate_left
      ·have bb5:¬ r5.bad<0:=hb5;have bb6:r5.bad≥0:=by omega
       have Hb5:=Hi bb6
       have Hon:=Hi (show o=none by
        rw [HofA.out]
        cases hoo:oA with
        | none=>rfl
        | some q=>exact absurd (RR5.out.D.some_ q hoo).1 hb5)
       clear hb5;go_wp2_with fail;go_ret;exact ⟨0,r5,⟨⟨⟨t++t5,Hns5.out,by rw [List.length_append];omega⟩,RR5.out.D.ok,Hdp5.out,by omega,RR5.out.D.it,htop5,fun _=>Hb5.out,fun q hq=>by rw [Hon.out] at hq;cases hq⟩,fun h=>absurd Hb5.out (by omega)⟩,rfl,K5.out,N5.out,v5,hP5.out⟩
      obtain ⟨q5,hq5⟩:∃ q5,oA=some q5:=by
       cases hoo:oA with
       | none=>exact absurd (RR5.out.D.none_ hoo) (by omega)
       | some q=>exact ⟨q,rfl⟩
      obtain ⟨u1,u2,u3,u4,u5⟩:=RR5.out.D.some_ q5 hq5;obtain ⟨g1,g2,g3⟩:=RR5.out.good hb5;have HofS:=HofA.out;rw [hq5] at HofS;dsimp only at HofS;have D5:DesP s r5:=⟨hb5,u5,u4,by rw [Hdp5.out];exact hdp,RR5.out.D.ok,by rw [Ht5.out,List.length_append,y4.out];omega⟩
      have hl5:((bs s).drop r5.at_).length+1≤((bs s).drop rr.at_).length:=by rw [List.length_drop,List.length_drop,bs_length];omega
      have hu2:=u2;have cS:=d_suffixed hP5.out D5 hs g1 (F:=f0+1) (by have:=Hff.out;omega) (by have:=D5.ns;omega)
      rw [u2,u3] at cS;rw [show r5.dp=r.dp from Hdp5.out] at cS
      obtain ⟨oS,hoS⟩:∃ oS,des (f0+1) .suf q5.1 q5.2 r.dp=oS:=⟨_,rfl⟩
      rw [hoS] at cS HofS;have HofS:=Hi HofS;have cS:=Hi cS;have bb5:r5.bad<0:=hb5;have bb6:¬ r5.bad≥0:=by omega
      have nI:=Hi hP5.out.noint;clear hoS u1 u2 u3 u4 hq5 D5 hb5 hu2;go_wp2_with fail;refine cS.out.mono ?_;rintro e w6 ⟨k6,r6,⟨m1,m2,R6,m3⟩,rfl,K6,N6,v6,P6⟩;have AP6:=Hi (Apart.new AP5.out N6 (fun g hg=>(O5.out.lt g hg).2))
      have N6:=Hi (NewN.trans N5.out N6 K5.out.below.size);have O6:=row_kept O5.out nI.out K6;have K6:=K5.out.trans K6;have h56:r5.at_≤r6.at_:=R6.le;obtain ⟨t6,ht6,htl6⟩:=R6.ns;have Ht6:=Hi ht6;have hdp6:=Hi (R6.dp.trans Hdp5.out);have RR6:=Hi R6;have Hmu6:=Hi (P6.mu s.size);have hP6:=Hi P6;have O6:=Hi O6;have K6:=Hi K6
      have hksl:ks.length≤300:=by
       have h1:=I.out.K.sum
       have h2:ks.length≤sumW rr.ns ks:=by
        clear h1;generalize ks=ks2
        induction ks2 with
        | nil=>exact Nat.zero_le _
        | cons a t ih=>unfold sumW at *;rw [List.map_cons,List.sum_cons,List.length_cons];have:=wd_pos rr.ns a;omega
       omega
      have hbs:w.heap.size≤w6.heap.size:=K6.out.below.size;clear P6 cS K5 O5 ht6 R6;go_wp2_with (at_builtin;refine wpList_append_lies _ rfl (.tmp 46) (.tmp 48) _ rfl w.heap.size 3 i0 _ 1 8 Tryz.underlying49 gi0.out gz0.out gz1.out gz2.out rfl (by decide) u3 ks.length (intsV ks) rfl (O6.out.alloc _) ⟨w6.heap.size,0,none⟩ 1 1 (intsV [k6]) rfl rfl (World.news_of_block (heap_alloc_new w6 _)) (by intro u hu;obtain ⟨y,_,rfl⟩:=List.mem_map.1 hu;rfl) (by decide) (by unfold maxLen;omega) (by omega) (by simp;omega) (w6.heap.size+1) (by simp) ?_;intro g' cap' w7 hown7 hg7 hat7 hlt7;have hown8:=Hi hown7;have hg8:=Hi hg7;clear hown7 hg7)
      have hsz6:w6.heap.size<(w6.alloc (.cells #[.int .i64 k6] 3 (0,0))).heap.size:=by simp
      have Pa:=hP6.out.up ((Below.refl _ w6).alloc (Nat.le_refl _) (.cells #[.int .i64 k6] 3 (0,0)));have Oa:=O6.out.alloc (.cells #[.int .i64 k6] 3 (0,0));have P7:=Pa.beside Oa hMl AP6.out hg8.out;have K7:=(K6.out.trans (K14.of_below (M:=M) ((Below.refl _ w6).alloc (Nat.le_refl _) (.cells #[.int .i64 k6] 3 (0,0))) (by omega))).beside (by omega) Oa hg8.out
      have hsum:sumW r6.ns ks=sumW rr.ns ks:=by
       rw [Ht6.out,Ht5.out,y4.out,List.append_assoc];exact sumW_app I.out.K.lt
      have hltk:∀ k∈ks,k<r6.ns.length:=fun k hk=>by
       have:=I.out.K.lt k hk;rw [Ht6.out,Ht5.out,y4.out,List.length_append,List.length_append];omega
      have hmu7:=P7.mu s.size;refine ⟨⟨r6,v6,ks++[k6],Hi P7,Hi ⟨N6.out,⟨fun k hk=>?_,?_,⟨t++t5++t6,by rw [Ht6.out,Hns5.out];simp,by rw [List.length_append,List.length_append];omega⟩,RR6.out.ok,hdp6.out,by omega,RR6.out.it⟩,m3,?_⟩,Hi (fun n hn g hg e=>?_),Hi K7,Hi (by rw [List.length_append,show intsV (ks++[k6])=intsV ks++intsV [k6] by simp [intsV]];exact hown8.out),(fun h=>by simp at h)⟩,?_⟩
      ·rcases List.mem_append.1 hk with hk|hk
       ·exact hltk k hk
       ·rw [List.mem_singleton] at hk;subst hk;exact m1
      ·rw [sumW_snoc,hsum];have:=I.out.K.sum;omega
      ·cases hoS:oS with
       | none=>exact .inr ⟨RR6.out.none_ hoS,by rw [HofS.out,hoS]⟩
       | some u=>
         obtain ⟨a1,a2,a3,a4,a5⟩:=RR6.out.some_ u hoS;refine .inl ⟨a1,a4,f0+1,?_,?_,by omega⟩
         ·rw [HofS.out,hoS,a2,a3]
         ·have h1:((bs s).drop r6.at_).length=s.size-r6.at_:=by rw [List.length_drop,bs_length]
          have h2:((bs s).drop rr.at_).length=s.size-rr.at_:=by rw [List.length_drop,bs_length]
          have h3:=Hff.out;rw [h2] at h3;rw [h1];omega
      ·have hk6:=((hP6.out.kids n hn).lt hg);have e2:g'=g:=by injection e
       have hat8:=hat7;rw [e2] at hat8;rcases hat8 with h|h
       ·exact AP6.out n hn g hg h
       ·clear hat7 e2 e;omega
      ·have h7:rr.at_<r6.at_:=by omega
       rw [Hmu.out,hmu7]
       split<;>omega
  ·have hof:=Hi hon;have bb:¬ rr.bad<0:=by omega
   have hb0:=Hi hbad;have hsh:=ints_row O.out Hnil.out;obtain ⟨A,m,c,rfl⟩:=hsh.shape;have cJ:=Hi (d_join Q.out 4 (.inl rfl) hsh I.out.K.lt I.out.K.ok (by have:=I.out.K.sum;omega) (by omega))
   clear hmu hon hsh;go_wp2_with fail;refine cJ.out.mono ?_;rintro e w2 ⟨k,r',J,rfl,K2,N2,v2,P2⟩;have N2:=Hi (NewN.trans I.out.new N2 K.out.below.size);have hP2:=Hi P2;have K2:=Hi (K.out.trans K2);have J:=Hi J;clear P2 cJ;go_wp2_with fail;go_ret;exact ⟨k,r',join_pat I.out.K J.out (by omega) (by omega) (fun _=>hb0.out) (fun q hq=>by rw [hof.out] at hq;cases hq) (Nat.le_refl _),rfl,K2.out,N2.out,v2,hP2.out⟩
theorem des_pat (f:Nat)(r:Bytes)(it d:Nat):des (f+1) .pat r it d=match des f .line r it d with
  | none=>none
  | some q=>des f .patT q.1 q.2 d:=rfl
theorem des_patT (f:Nat)(r:Bytes)(it d:Nat):des (f+1) .patT r it d=match peekS r with
  | []=>some ([],it)
  | c::r2=>if c.toNat=124 then (if 48≤it then none else match des f .line r2 (it+1) d with
    | none=>none
    | some q=>des f .patT q.1 q.2 d)
   else some (c::r2,it):=rfl
theorem own_one (w:World)(k:Nat){base:Nat}(hb:base≤w.heap.size):(w.alloc (.cells #[.int .i64 k] 3 (0,0))).ownsRow base 3 1 (.slice (some ⟨w.heap.size,0,none⟩) 1 1) [k].length (intsV [k]):=
 ⟨rfl,.inr ⟨w.heap.size,1,#[.int .i64 k],rfl,hb,heap_alloc_new w _,Nat.le_refl _,by unfold maxLen;decide,rfl,rfl⟩⟩
theorem d_line_bad {w:World}{M B:Nat}{s:ByteArray}{r:R14}{v:Value}(P:RdAt w M B s r v)(hb:0≤r.bad)(hok:NodeOK r.ns)(hn:r.ns.length≤99999) :
  Calls Tryz.prog 137 #[.pointer (some ⟨M,0,none⟩)] w fun e w'=>∃ (k:Nat) (r':R14),JoinR r r' [] k∧PostW w M B s r r' k e w':=by
 have cJ:=Hi (d_join P 4 (.inl rfl) (.inl ⟨rfl,rfl⟩:IntsIn w (.slice none 0 0) []) (fun k hk=>by cases hk) hok (by unfold sumW;simp) hn)
 have q4:=P.c4;have bb:¬ r.bad<0:=by omega
 clear P hb hok hn;go_enter Tryz.func137,Tryz.ntmps137;go_wp2_with fail
 go_loopw [3] (fun a wr=>a=.slice none 0 0∧wr=w) (fun _ _=>0)
 case atStart=>exact ⟨rfl,rfl⟩
 case round=>
  obtain ⟨rfl,rfl⟩:=hrel;go_wp2_with fail;refine cJ.out.mono ?_;rintro e w2 ⟨k,r',J,rfl,K2,N2,v2,P2⟩;have hP2:=Hi P2;have J:=Hi J;have N2:=Hi N2;clear P2 cJ;go_wp2_with fail;go_ret;exact ⟨k,r',J.out,rfl,K2,N2.out,v2,hP2.out⟩
structure PatI (s:ByteArray)(r rr:R14)(ks:List Nat)(o:Option (Bytes×Nat))(n N:Nat):Prop where
 new:NewN N r rr
 ns:∃ t,rr.ns=r.ns++t∧t.length+4*r.at_≤4*rr.at_+1
 ok:NodeOK rr.ns
 dp:rr.dp=r.dp
 le:r.at_≤rr.at_
 it:rr.it≤49
 top:rr.at_+rr.dp≤s.size+33
 st:(rr.bad<0∧rr.it≤48∧rr.at_≤s.size∧(∀ k∈ks,k<rr.ns.length)∧sumW rr.ns ks≤rr.at_-r.at_+1∧∃ f,o=des f .patT ((bs s).drop rr.at_) rr.it r.dp∧4*((bs s).drop rr.at_).length+1≤f∧f≤n)∨(0≤rr.bad∧o=none)
theorem d_pattern {M B:Nat}{s:ByteArray}{n:Nat}(IH:∀ k,k<n→LineIH M B s k)(hs:s.size≤300):PatIH M B s n:=by
 intro w r v P D hF;obtain ⟨o,ho⟩:∃ o,des n .pat ((bs s).drop r.at_) r.it r.dp=o:=⟨_,rfl⟩
 obtain ⟨n,rfl⟩:∃ n',n=n'+1:=⟨n-1,by omega⟩
 rw [ho];rw [des_pat] at ho;obtain ⟨oL,hoL⟩:∃ oL,des n .line ((bs s).drop r.at_) r.it r.dp=oL:=⟨_,rfl⟩
 have cL:=IH n (by omega) w r v P D (by omega)
 rw [hoL] at ho cL;have cL:=Hi cL;have Ho:=Hi ho;have hdp:=D.dp;have hns:=D.ns;have hIH:=Hi IH;obtain ⟨i0,hi0,hz0,hz1,hz2⟩:=info_parts int_info;have gi0:=Hi hi0;have gz0:=Hi hz0;have gz1:=Hi hz1;have gz2:=Hi hz2;have hMB:=P.bM;have hMl:=P.lt;have hra:=D.at_;have hFF:=Hi hF;have hlr:((bs s).drop r.at_).length=s.size-r.at_:=by rw [List.length_drop,bs_length]
 have Hlr:=Hi hlr;clear hlr;clear P D hF IH hi0 hz0 hz1 hz2 ho hoL;go_enter Tryz.func107,Tryz.ntmps107;go_wp2_with fail;refine cL.out.mono ?_;rintro e w1 ⟨k1,r1,R1,rfl,K1,N1,v1,P1⟩;have hbs1:w.heap.size≤w1.heap.size:=K1.below.size
 have I1:PatI s r r1 [k1] o n w.heap.size:=by
  refine ⟨N1,R1.D.ns,R1.D.ok,R1.D.dp,R1.D.le,R1.D.it,R1.D.top,?_⟩
  cases hoL:oL with
  | none=>exact .inr ⟨R1.D.none_ hoL,by rw [← Ho.out,hoL]⟩
  | some q=>
    obtain ⟨a1,a2,a3,a4,a5⟩:=R1.D.some_ q hoL;obtain ⟨g1,g2⟩:=R1.good a1;refine .inl ⟨a1,a4,a5,fun k hk=>by rw [List.mem_singleton] at hk;subst hk;exact g1,by unfold sumW;simpa using g2,n,?_,?_,Nat.le_refl _⟩
    ·rw [← Ho.out,hoL,a2,a3]
    ·have h1:=hFF.out;rw [Hlr.out] at h1;rw [List.length_drop,bs_length];have:=R1.D.le;omega
 have Pa:=P1.up ((Below.refl _ w1).alloc (Nat.le_refl _) (.cells #[.int .i64 k1] 3 (0,0)));have Oa:=own_one w1 k1 hbs1
 have Aa:Apart r1.ns (.slice (some ⟨w1.heap.size,0,none⟩) 1 1):=fun n hn g hg e=>by
  have h1:=(P1.kids n hn).lt hg;have e2:w1.heap.size=g:=by injection e
  omega
 have Ka:=K1.trans (K14.of_below (M:=M) ((Below.refl _ w1).alloc (Nat.le_refl _) (.cells #[.int .i64 k1] 3 (0,0))) (by omega))
 have Pb:=Hi Pa;have Ob:=Hi Oa;have Ab:=Hi Aa;have Kb:=Hi Ka;have Ib:=Hi I1;clear Pa Oa Aa Ka I1;clear cL P1 R1 N1 K1 Ho;go_wp2_with fail;obtain ⟨w2,hw2⟩:∃ w2,w1.alloc (.cells #[.int .i64 k1] 3 (0,0))=w2:=⟨_,rfl⟩
 rw [hw2] at Pb Ob Kb;have hw2:w1.alloc (.cells #[.int .i64 k1] 3)=w2:=hw2;rw [hw2];clear hw2;generalize w1.heap.size=X at Ob Ab ⊢
 go_loopw [4] (fun a wr=>∃ (rr:R14) (vv:Value) (ks:List Nat),Hid (RdAt wr M B s rr vv)∧Hid (PatI s r rr ks o n w.heap.size)∧Hid (Apart rr.ns a)∧Hid (K14 B M w wr)∧Hid (wr.ownsRow w.heap.size 3 1 a ks.length (intsV ks))∧0<ks.length) (fun _ wr=>mu14 M s.size wr)
 case atStart=>exact ⟨r1,v1,[k1],Pb,Ib,Ab,Kb,Ob,by simp⟩
 case round=>
  obtain ⟨rr,vv,ks,Q,I,AP,K,O,hks⟩:=hrel;obtain ⟨wq,rfl⟩:∃ wq,wq=wr:=⟨_,rfl⟩
  have hmu:=Q.out.mu s.size;have q4:=Q.out.c4;have hle2:=I.out.le;have hrd:rr.dp≤32:=by have:=I.out.dp;omega
  have htop:=I.out.top
  have hnsl:rr.ns.length≤4*rr.at_+1:=by
   obtain ⟨t,ht,htl⟩:=I.out.ns;rw [ht,List.length_append];omega
  clear Pb Ib Ab Kb Ob;rcases I.out.st with ⟨hbad,hit,hle,hlk,hsum,f,hof,hff,hfn⟩|⟨hbad,hon⟩
  ·rw [if_pos hbad] at hmu;have Hmu:=Hi hmu;have bb:rr.bad<0:=hbad;have cp:=d_peek Q.out (by omega) (by omega)
   obtain ⟨f,rfl⟩:∃ f',f=f'+1:=⟨f-1,by omega⟩
   rw [des_patT] at hof;have hpk:=peek14 s rr;have hpl:=peek14_le s rr hle;have hpp:=peek_len ((bs s).drop rr.at_);obtain ⟨r2,hr2⟩:∃ r2,rr.peek s=r2:=⟨_,rfl⟩
   have e1:r2.it=rr.it∧r2.dp=rr.dp∧r2.bad=rr.bad∧r2.ns=rr.ns:=by rw [← hr2];exact ⟨rfl,rfl,rfl,rfl⟩
   rw [hr2] at cp hpk hpl;obtain ⟨x1,x2,x3,x4⟩:=e1;have y1:=Hi x1;have y2:=Hi x2;have y3:=Hi x3;have y4:=Hi x4;have Hbad:=Hi hbad;have Hit:=Hi hit;have Hff:=Hi hff;clear hr2 x1 x2 x3 x4 hbad hit hmu;obtain ⟨r1,hr1⟩:∃ r1,r2=r1:=⟨_,rfl⟩
   subst hr1
   cases hpe:peekS ((bs s).drop rr.at_) with
   | nil=>
     rw [hpe] at cp hof hpk;have cp:Hid (Calls Tryz.prog 138 #[.pointer (some ⟨M,0,none⟩)] wq fun e w'=>e=.returned (.int .u8 0)∧K14 B M wq w'∧RdAt w' M B s r2 vv):=cp
     have Hof:=Hi hof;have Hpk:=Hi hpk;clear hpe hpp hof hpk;go_upto_region 8 with (go_at_call 138;refine cp.out.mono ?_;rintro e w3 ⟨rfl,K1,P1⟩);have O1:=Hi (row_kept O.out Q.out.noint K1);have K1:=Hi (K.out.trans K1);have hP1:=Hi P1;clear P1 cp q4;have b8:¬ r2.bad≥0:=by rw [y3.out];have:=Hbad.out;omega
     have q4:=hP1.out.c4;obtain ⟨A,m,c0,rfl⟩:=(ints_row O1.out (fun h=>by rw [h] at hks;cases hks)).shape
     have cJ:=Hi (d_join hP1.out 5 (.inr rfl) (ints_row O1.out (fun h=>by rw [h] at hks;cases hks)) (by rw [y4.out];exact hlk) (by rw [y4.out];exact I.out.ok) (by rw [y4.out];omega) (by rw [y4.out];omega))
     go_wp2_with fail;refine cJ.out.mono ?_;rintro e w3 ⟨k,r',J,rfl,K3,N3,v3,P3⟩;have N3:=Hi (NewN.trans (I.out.new.of_ns y4.out) N3 K1.out.below.size);have hP3:=Hi P3;have K3:=Hi (K1.out.trans K3);have J:=Hi J;clear P3 cJ;go_wp2_with fail;go_ret;obtain ⟨t,ht,htl⟩:=I.out.ns;exact ⟨k,r',join_pat (m:=rr.at_-r.at_+1) (e:=1) ⟨by rw [y4.out];exact hlk,by rw [y4.out];exact hsum,⟨t,by rw [y4.out];exact ht,by omega⟩,by rw [y4.out];exact I.out.ok,y2.out.trans I.out.dp,by omega,by rw [y1.out];exact I.out.it⟩ J.out (by omega) (by rw [y2.out];omega) (fun h=>by rw [Hof.out] at h;cases h) (fun q hq=>by rw [Hof.out] at hq;cases hq;exact ⟨by rw [y3.out];exact Hbad.out,Hpk.out,y1.out,by rw [y1.out];exact Hit.out,hpl.2⟩) (Nat.le_refl _),rfl,K3.out,N3.out,v3,hP3.out⟩
   | cons c q2=>
     rw [hpe] at cp hof hpk hpp;have cp:Hid (Calls Tryz.prog 138 #[.pointer (some ⟨M,0,none⟩)] wq fun e w'=>e=.returned (.int .u8 (c.toNat:Nat))∧K14 B M wq w'∧RdAt w' M B s r2 vv):=cp
     have hlt1:r2.at_<s.size:=by
      by_cases h:r2.at_<s.size
      ·exact h
      ·rw [bs_drop_end s _ h] at hpk;cases hpk
     have hpk2:(bs s).drop (r2.at_+1)=q2:=by rw [bs_drop s _ hlt1] at hpk;cases hpk;rfl
     dsimp only at hof;have Hpk:=Hi hpk;have Hpp:=Hi hpp
     by_cases hbr:c.toNat=124
     ·rw [if_pos hbr] at hof;have d124:((c.toNat:Int) == 124)=true:=by rw [hbr];rfl
      have Hof:=Hi hof;have Hpk2:=Hi hpk2;have cI:=fun (W:World) (P:RdAt W M B s r2 vv)=>d_item P r2.at_ (by rw [y1.out];have:=Hit.out;omega)
      obtain ⟨i1,i2,i3,i4,i5,i6⟩:=item_eq r2 r2.at_;obtain ⟨r3,hr3⟩:∃ r3,r2.item r2.at_=r3:=⟨_,rfl⟩
      rw [hr3] at i1 i2 i3 i4 i5 i6;have cI:=Hi (fun (W:World) (P:RdAt W M B s r2 vv)=>(hr3▸cI W P:Calls Tryz.prog 139 #[.pointer (some ⟨M,0,none⟩),.int .i64 r2.at_] W fun e w'=>Post14 W M B s r3 e w'))
      have j1:=Hi i1;have j2:=Hi i2;have j3:=Hi i3;have j4:=Hi i4;have j5:=Hi i5;have j6:=Hi i6;have bw1:IntKind.i64.wrap ((r2.at_:Int)+1)=(r2.at_:Int)+1:=IntWalk.i64_in _ (by omega)
      clear hpe hpp hof hpk hpk2 hbr i1 i2 i3 i4 i5 i6 hr3;go_upto_region 4 with (go_at_call 138;refine cp.out.mono ?_;rintro e w3 ⟨rfl,K1,P1⟩);have O1:=row_kept O.out Q.out.noint K1;have K1:=K.out.trans K1;have q1:=P1.c1;have cJ:=Hi (cI.out w3 P1);have nI1:=P1.noint;clear P1 cp q4 cI;go_wp2_with fail;refine cJ.out.mono ?_;rintro e w4 ⟨rfl,K4,v4,P4⟩;have O4:=row_kept O1 nI1 K4;have K4:=K1.trans K4;have s1:w4.cell? ⟨M,1,none⟩=some (.int .i64 r2.at_):=by have:=P4.c1;rw [j1.out] at this;exact this
      have f1:=P4.free 1;have hP4:=Hi P4;have O4:=Hi O4;have K4:=Hi K4;clear P4 cJ K1 O1 q1 nI1;go_upto_region 6 with fail;have P5:RdAt (w4.setCell ⟨M,1,none⟩ (.int .i64 ((r2.at_:Int)+1))) M B s { r3 with at_:=r2.at_+1 } v4:=hP4.out.setAt (r2.at_+1);have K5:=Hi (K4.out.setM hP4.out.bM 1 (.int .i64 ((r2.at_:Int)+1)));have O5:=Hi (ownsRow_setCell_below O4.out (a:=⟨M,1,none⟩) hMl (.int .i64 ((r2.at_:Int)+1)));clear hP4 s1 f1 K4 O4;generalize w4.setCell ⟨M,1,none⟩ (.int .i64 ((r2.at_:Int)+1))=w5 at P5 K5 O5 ⊢;have nI5:=P5.noint;have h4:r2.at_+1+r3.dp≤s.size+33:=by rw [j3.out,y2.out];omega
      obtain ⟨t,ht,htl⟩:=I.out.ns;have Ht:=Hi ht;have e4:r3.ns=rr.ns:=j4.out.trans y4.out;have E4:=Hi e4;clear ht e4
      by_cases h48:48≤rr.it
      ·have b3:0≤r3.bad:=j5.out (by rw [y1.out];exact h48)
       have Hon:=Hi (Hof.out.trans (if_pos h48));have cN:=Hi (d_line_bad P5 b3 (show NodeOK r3.ns by rw [E4.out];exact I.out.ok) (show r3.ns.length≤99999 by rw [E4.out];omega))
       have hP5:=Hi P5;have H48:=Hi h48;clear P5 h48;go_wp2_with fail;refine cN.out.mono ?_;rintro e w6 ⟨k5,r5,J,rfl,K6,N6,v6,P6⟩;have AP6:=Hi (Apart.new (r:={ r3 with at_:=r2.at_+1 }) (show Apart r3.ns u4 by rw [E4.out];exact AP.out) N6 (fun g hg=>(O5.out.lt g hg).2))
       have N6:=NewN.trans (I.out.new.of_ns (r2:={ r3 with at_:=r2.at_+1 }) E4.out) N6 K5.out.below.size;have O6:=Hi (row_kept O5.out nI5 K6);have K6:=Hi (K5.out.trans K6)
       have I6:Hid (PatI s r r5 (ks++[k5]) o n w.heap.size):=Hi (by
        obtain ⟨t2,ht2,htl2⟩:=J.ns;have e1:r5.at_=r2.at_+1:=by rw [ht2]
        have e2:r5.it=r3.it:=by rw [ht2]
        have e3:r5.dp=r3.dp:=by rw [ht2]
        have e5:r5.bad=r3.bad:=by rw [ht2]
        refine ⟨N6,⟨t++t2,by rw [ht2];show r3.ns++t2=_;rw [E4.out,Ht.out,List.append_assoc],by rw [List.length_append,e1];omega⟩,J.ok,by rw [e3,j3.out,y2.out];exact I.out.dp,by omega,by rw [e2,j2.out,y1.out];have:=Hit.out;omega,by rw [e1,e3];exact h4,.inr ⟨by rw [e5];exact b3,Hon.out⟩⟩)
       have hr5:rr.at_<r5.at_:=by
        obtain ⟨t2,ht2,htl2⟩:=J.ns;have e1:r5.at_=r2.at_+1:=by rw [ht2]
        omega
       have hP6:=Hi P6;clear P6 cN K5 O5 J N6 hP5
       have hksl:ks.length≤400:=by
        have h2:ks.length≤sumW rr.ns ks:=by
         generalize ks=ks2
         induction ks2 with
         | nil=>exact Nat.zero_le _
         | cons a t ih=>unfold sumW at *;rw [List.map_cons,List.sum_cons,List.length_cons];have:=wd_pos rr.ns a;omega
        omega
       have hbs:w.heap.size≤w6.heap.size:=K6.out.below.size;have Hmu6:=hP6.out.mu s.size;have Hmu6:=Hi Hmu6;go_wp2_with (at_builtin;refine wpList_append_lies _ rfl (.tmp 34) (.tmp 36) _ rfl w.heap.size 3 i0 _ 1 8 Tryz.underlying49 gi0.out gz0.out gz1.out gz2.out rfl (by decide) u4 ks.length (intsV ks) rfl (O6.out.alloc _) ⟨w6.heap.size,0,none⟩ 1 1 (intsV [k5]) rfl rfl (World.news_of_block (heap_alloc_new w6 _)) (by intro u hu;obtain ⟨y,_,rfl⟩:=List.mem_map.1 hu;rfl) (by decide) (by unfold maxLen;omega) (by omega) (by simp;omega) (w6.heap.size+1) (by simp) ?_;intro g' cap' w7 hown7 hg7 hat7 hlt7;have hown8:=Hi hown7;have hg8:=Hi hg7;clear hown7 hg7)
       have hsz6:w6.heap.size<(w6.alloc (.cells #[.int .i64 k5] 3 (0,0))).heap.size:=by simp
       have Pa:=hP6.out.up ((Below.refl _ w6).alloc (Nat.le_refl _) (.cells #[.int .i64 k5] 3 (0,0)));have Oa:=O6.out.alloc (.cells #[.int .i64 k5] 3 (0,0));have P7:=Pa.beside Oa hMl AP6.out hg8.out;have K7:=(K6.out.trans (K14.of_below (M:=M) ((Below.refl _ w6).alloc (Nat.le_refl _) (.cells #[.int .i64 k5] 3 (0,0))) (by omega))).beside (by omega) Oa hg8.out
       have hmu7:=P7.mu s.size;refine ⟨⟨r5,v6,ks++[k5],Hi P7,I6,Hi (fun n hn g hg e=>?_),Hi K7,Hi (by rw [List.length_append,show intsV (ks++[k5])=intsV ks++intsV [k5] by simp [intsV]];exact hown8.out),by simp⟩,?_⟩
       ·have hk6:=((hP6.out.kids n hn).lt hg);have e2:g'=g:=by injection e
        have hat8:=hat7;rw [e2] at hat8;rcases hat8 with h|h
        ·exact AP6.out n hn g hg h
        ·clear hat7 e2 e;omega
       ·rw [Hmu.out,hmu7]
        split<;>omega
      ·have b3:r3.bad<0:=by rw [j6.out (by rw [y1.out];exact h48),y3.out];exact Hbad.out
       have Hof2:=Hof.out.trans (if_neg h48);have D4:DesP s { r3 with at_:=r2.at_+1 }:=⟨b3,hlt1,by show r3.it≤48;rw [j2.out,y1.out];omega,by show r3.dp≤32;rw [j3.out,y2.out];exact hrd,by show NodeOK r3.ns;rw [E4.out];exact I.out.ok,by show r3.ns.length≤4*(r2.at_+1);rw [E4.out];omega⟩
       have hq2:4*q2.length+4≤f:=by have h1:=Hff.out;have h2:=Hpp.out;simp only [List.length_cons] at h2;omega
       have cN:=hIH.out f (by omega) _ _ _ P5 D4 (show 4*((bs s).drop (r2.at_+1)).length+3≤f by rw [Hpk2.out];omega)
       obtain ⟨oL,hoL⟩:∃ oL,des f .line q2 (rr.it+1) r.dp=oL:=⟨_,rfl⟩
       have e6:des f .line ((bs s).drop ({ r3 with at_:=r2.at_+1 }:R14).at_) ({ r3 with at_:=r2.at_+1 }:R14).it ({ r3 with at_:=r2.at_+1 }:R14).dp=oL:=by
        show des f .line ((bs s).drop (r2.at_+1)) r3.it r3.dp=oL
        rw [Hpk2.out,j2.out,y1.out,j3.out,y2.out,I.out.dp];exact hoL
       rw [e6] at cN;rw [hoL] at Hof2;have cN:=Hi cN;have Hof2:=Hi Hof2;clear P5 h48 D4 hoL e6;go_wp2_with fail;refine cN.out.mono ?_;rintro e w6 ⟨k5,r5,R,rfl,K6,N6,v6,P6⟩;have AP6:=Hi (Apart.new (r:={ r3 with at_:=r2.at_+1 }) (show Apart r3.ns u4 by rw [E4.out];exact AP.out) N6 (fun g hg=>(O5.out.lt g hg).2))
       have N6:=NewN.trans (I.out.new.of_ns (r2:={ r3 with at_:=r2.at_+1 }) E4.out) N6 K5.out.below.size;have O6:=Hi (row_kept O5.out nI5 K6);have K6:=Hi (K5.out.trans K6);have hle5:r2.at_+1≤r5.at_:=R.D.le
       have I6:Hid (PatI s r r5 (ks++[k5]) o n w.heap.size):=Hi (by
        obtain ⟨t2,ht2,htl2⟩:=R.D.ns;have ht2:r5.ns=r3.ns++t2:=ht2;have htl2:t2.length+4*(r2.at_+1)≤4*r5.at_+1:=htl2;refine ⟨N6,⟨t++t2,by rw [ht2,E4.out,Ht.out,List.append_assoc],by rw [List.length_append];omega⟩,R.D.ok,by rw [R.D.dp];show r3.dp=_;rw [j3.out,y2.out];exact I.out.dp,by omega,R.D.it,R.D.top,?_⟩
        cases hoL:oL with
        | none=>exact .inr ⟨R.D.none_ hoL,by rw [Hof2.out,hoL]⟩
        | some q=>
          obtain ⟨a1,a2,a3,a4,a5⟩:=R.D.some_ q hoL;obtain ⟨g1,g2⟩:=R.good a1;have g2:wd r5.ns k5≤r5.at_-(r2.at_+1)+1:=g2;refine .inl ⟨a1,a4,a5,fun k hk=>?_,?_,f,?_,?_,by omega⟩
          ·rcases List.mem_append.1 hk with hk|hk
           ·have:=hlk k hk;rw [ht2,E4.out,List.length_append];omega
           ·rw [List.mem_singleton] at hk;subst hk;exact g1
          ·rw [sumW_snoc,show sumW r5.ns ks=sumW rr.ns ks by rw [ht2,E4.out];exact sumW_app hlk]
           omega
          ·rw [Hof2.out,hoL,a2,a3]
          ·have h1:((bs s).drop r5.at_).length=s.size-r5.at_:=by rw [List.length_drop,bs_length]
           have h2:((bs s).drop rr.at_).length=s.size-rr.at_:=by rw [List.length_drop,bs_length]
           have h3:=Hff.out;rw [h2] at h3;rw [h1];omega)
       have hr5:rr.at_<r5.at_:=by omega
       have hP6:=Hi P6;clear P6 cN K5 O5 R N6
       have hksl:ks.length≤400:=by
        have h2:ks.length≤sumW rr.ns ks:=by
         generalize ks=ks2
         induction ks2 with
         | nil=>exact Nat.zero_le _
         | cons a t ih=>unfold sumW at *;rw [List.map_cons,List.sum_cons,List.length_cons];have:=wd_pos rr.ns a;omega
        omega
       have hbs:w.heap.size≤w6.heap.size:=K6.out.below.size;have Hmu6:=hP6.out.mu s.size;have Hmu6:=Hi Hmu6;go_wp2_with (at_builtin;refine wpList_append_lies _ rfl (.tmp 34) (.tmp 36) _ rfl w.heap.size 3 i0 _ 1 8 Tryz.underlying49 gi0.out gz0.out gz1.out gz2.out rfl (by decide) u4 ks.length (intsV ks) rfl (O6.out.alloc _) ⟨w6.heap.size,0,none⟩ 1 1 (intsV [k5]) rfl rfl (World.news_of_block (heap_alloc_new w6 _)) (by intro u hu;obtain ⟨y,_,rfl⟩:=List.mem_map.1 hu;rfl) (by decide) (by unfold maxLen;omega) (by omega) (by simp;omega) (w6.heap.size+1) (by simp) ?_;intro g' cap' w7 hown7 hg7 hat7 hlt7;have hown8:=Hi hown7;have hg8:=Hi hg7;clear hown7 hg7)
       have hsz6:w6.heap.size<(w6.alloc (.cells #[.int .i64 k5] 3 (0,0))).heap.size:=by simp
       have Pa:=hP6.out.up ((Below.refl _ w6).alloc (Nat.le_refl _) (.cells #[.int .i64 k5] 3 (0,0)));have Oa:=O6.out.alloc (.cells #[.int .i64 k5] 3 (0,0));have P7:=Pa.beside Oa hMl AP6.out hg8.out;have K7:=(K6.out.trans (K14.of_below (M:=M) ((Below.refl _ w6).alloc (Nat.le_refl _) (.cells #[.int .i64 k5] 3 (0,0))) (by omega))).beside (by omega) Oa hg8.out
       have hmu7:=P7.mu s.size;refine ⟨⟨r5,v6,ks++[k5],Hi P7,I6,Hi (fun n hn g hg e=>?_),Hi K7,Hi (by rw [List.length_append,show intsV (ks++[k5])=intsV ks++intsV [k5] by simp [intsV]];exact hown8.out),by simp⟩,?_⟩
       ·have hk6:=((hP6.out.kids n hn).lt hg);have e2:g'=g:=by injection e
        have hat8:=hat7;rw [e2] at hat8;rcases hat8 with h|h
        ·exact AP6.out n hn g hg h
        ·clear hat7 e2 e;omega
       ·rw [Hmu.out,hmu7]
        split<;>omega
     ·rw [if_neg hbr] at hof;have d124:((c.toNat:Int) == 124)=false:=by rw [beq_eq_false_iff_ne];omega
      have Hof:=Hi hof;clear hpe hpp hof hpk hbr hpk2;go_upto_region 8 with (go_at_call 138;refine cp.out.mono ?_;rintro e w3 ⟨rfl,K1,P1⟩);have O1:=Hi (row_kept O.out Q.out.noint K1);have K1:=Hi (K.out.trans K1);have hP1:=Hi P1;clear P1 cp q4;have b8:¬ r2.bad≥0:=by rw [y3.out];have:=Hbad.out;omega
      have q4:=hP1.out.c4;obtain ⟨A,m,c0,rfl⟩:=(ints_row O1.out (fun h=>by rw [h] at hks;cases hks)).shape
      have cJ:=Hi (d_join hP1.out 5 (.inr rfl) (ints_row O1.out (fun h=>by rw [h] at hks;cases hks)) (by rw [y4.out];exact hlk) (by rw [y4.out];exact I.out.ok) (by rw [y4.out];omega) (by rw [y4.out];omega))
      go_wp2_with fail;refine cJ.out.mono ?_;rintro e w3 ⟨k,r',J,rfl,K3,N3,v3,P3⟩;have N3:=Hi (NewN.trans (I.out.new.of_ns y4.out) N3 K1.out.below.size);have hP3:=Hi P3;have K3:=Hi (K1.out.trans K3);have J:=Hi J;clear P3 cJ;go_wp2_with fail;go_ret;obtain ⟨t,ht,htl⟩:=I.out.ns;exact ⟨k,r',join_pat (m:=rr.at_-r.at_+1) (e:=1) ⟨by rw [y4.out];exact hlk,by rw [y4.out];exact hsum,⟨t,by rw [y4.out];exact ht,by omega⟩,by rw [y4.out];exact I.out.ok,y2.out.trans I.out.dp,by omega,by rw [y1.out];exact I.out.it⟩ J.out (by omega) (by rw [y2.out];omega) (fun h=>by rw [Hof.out] at h;cases h) (fun q hq=>by rw [Hof.out] at hq;cases hq;exact ⟨by rw [y3.out];exact Hbad.out,Hpk.out,y1.out,by rw [y1.out];exact Hit.out,hpl.2⟩) (Nat.le_refl _),rfl,K3.out,N3.out,v3,hP3.out⟩
  ·have hof:=Hi hon;have bb:¬ rr.bad<0:=by omega
   have b8:rr.bad≥0:=by omega
   have hb0:=Hi hbad;clear hmu hon;go_wp2_with fail;go_ret;obtain ⟨t,ht,htl⟩:=I.out.ns;exact ⟨0,rr,⟨⟨⟨t,ht,by omega⟩,I.out.ok,I.out.dp,I.out.le,I.out.it,I.out.top,fun _=>hb0.out,fun q hq=>by rw [hof.out] at hq;cases hq⟩,fun h=>absurd hb0.out (by omega)⟩,rfl,K.out,I.out.new,vv,Q.out⟩
theorem pat_line {M B:Nat}{s:ByteArray}(hs:s.size≤300):∀ n k,k≤n→PatIH M B s k∧LineIH M B s k:=by
 intro n
 induction n with
 | zero=>
   intro k hk;obtain rfl:k=0:=by omega
   exact ⟨fun w r v P D hF=>absurd hF (by omega),fun w r v P D hF=>absurd hF (by omega)⟩
 | succ n ih=>
   intro k hk
   by_cases hkn:k≤n
   ·exact ih k hkn
   ·obtain rfl:k=n+1:=by omega
    exact ⟨d_pattern (fun k hk=>(ih k (by omega)).2) hs,d_line (fun k hk=>(ih k (by omega)).1) hs⟩
theorem two_cells {w:World}{R:Nat}{a b:Value}{T:TypeId}(c0 c1:Value)(h:w.heap[R]?=some (.cells #[a,b] T (0,0))):((w.setCell ⟨R,0,none⟩ c0).setCell ⟨R,1,none⟩ c1).heap[R]?=some (.cells #[c0,c1] T (0,0)):=by
 simp [World.setCell,Array.getElem?_modify,h]
theorem two_below {w:World}{R B:Nat}(c0 c1:Value)(hB:B≤R):Below B w ((w.setCell ⟨R,0,none⟩ c0).setCell ⟨R,1,none⟩ c1):=((Below.refl B w).setCell (p:=⟨R,0,none⟩) hB c0).setCell (p:=⟨R,1,none⟩) hB c1
def codeP (s:ByteArray):Int:=if 256<s.size then 2 else if patD (bs s)=true then 0 else 140
theorem d_Compile (s:ByteArray)(w:World)(hs:s.size≤9223372036854775807) :
  Calls Tryz.prog 74 #[.string s] w fun e w'=>Below w.heap.size w w'∧∃ (A:Option Addr) (m c:Nat) (k b:Int),e=.returned (.tuple #[.agg #[.slice A m c,.int .i64 k],.int .i64 (codeP s),.int .i64 b]):=by
 by_cases h256:256<s.size
 ·have H:=Hi (show codeP s=2 by unfold codeP;rw [if_pos h256])
  have b256:(s.size:Int)>256:=by omega
  clear h256;go_enter Tryz.func74,Tryz.ntmps74;go_wp2_with fail;have y0:=cell_of_row _ w.heap.size 0 _ _ _ (heap_alloc_new w (.cells #[.slice none 0 0,.int .i64 0] 140 (0,0)));have y1:=cell_of_row _ w.heap.size 1 _ _ _ (heap_alloc_new w (.cells #[.slice none 0 0,.int .i64 0] 140 (0,0)));simp only [List.getElem?_toArray,List.getElem?_cons_zero,List.getElem?_cons_succ] at y0 y1;refine bodyPost_ret (v:=.tuple #[.agg #[.slice none 0 0,.int .i64 0],.int .i64 2,.int .i64 0]) (by simp [results,Tryz.results74,go_sem,y0,y1]) rfl ?_
  exact ⟨(Below.refl w.heap.size w).alloc (Nat.le_refl _) _,_,_,_,_,_,by rw [H.out]⟩
 have H:=Hi (show codeP s=if patD (bs s)=true then 0 else 140 by unfold codeP;rw [if_neg h256])
 have b256:¬ (s.size:Int)>256:=by omega
 obtain ⟨w0,hw0⟩:∃ w0,w.alloc (.cells #[.slice none 0 0,.int .i64 0] 140 (0,0))=w0:=⟨_,rfl⟩
 have hbR:Below w.heap.size w w0:=by rw [← hw0];exact (Below.refl w.heap.size w).alloc (Nat.le_refl _) _
 have hR0:w0.heap[w.heap.size]?=some (.cells #[.slice none 0 0,.int .i64 0] 140 (0,0)):=by rw [← hw0];exact heap_alloc_new w _
 have hRl:w.heap.size<w0.heap.size:=(Array.getElem?_eq_some_iff.1 hR0).1
 have P0:RdAt (w0.alloc (.cells #[.string s,.int .i64 0,.int .i64 0,.int .i64 0,.int .i64 (-1),.slice none 0 0] 171 (0,0))) w0.heap.size w0.heap.size s ⟨0,0,0,-1,[]⟩ (.slice none 0 0):=
  ⟨heap_alloc_new w0 _,Nat.le_refl _,⟨by simp [flat14],.inl ⟨rfl,rfl⟩⟩,fun n hn=>by cases hn⟩
 have hb0:Below w0.heap.size w0 (w0.alloc (.cells #[.string s,.int .i64 0,.int .i64 0,.int .i64 0,.int .i64 (-1),.slice none 0 0] 171 (0,0))):=(Below.refl w0.heap.size w0).alloc (Nat.le_refl _) _;obtain ⟨o,ho⟩:∃ o,des (4*(bs s).length+4) .pat (bs s) 0 0=o:=⟨_,rfl⟩
 have D0:DesP s ⟨0,0,0,-1,[]⟩:=⟨by show (-1:Int)<0;decide,Nat.zero_le _,Nat.zero_le _,Nat.zero_le _,(fun n hn=>by cases hn),Nat.zero_le _⟩
 have hpD:patD (bs s)=match des (4*(bs s).length+4) .pat (bs s) 0 0 with|none=>false|some q=>q.1.isEmpty:=rfl
 have cP:=(pat_line (M:=w0.heap.size) (B:=w0.heap.size) (s:=s) (by omega) _ _ (Nat.le_refl (4*(bs s).length+4))).1 _ _ _ P0 D0 (Nat.le_refl _)
 have e0:des (4*(bs s).length+4) .pat ((bs s).drop (⟨0,0,0,-1,[]⟩:R14).at_) (⟨0,0,0,-1,[]⟩:R14).it (⟨0,0,0,-1,[]⟩:R14).dp=o:=ho;rw [e0] at cP;rw [ho] at hpD;have cP:=Hi cP;have HpD:=Hi hpD;have hb1:=Hi hb0;have HbR:=Hi hbR;have HR0:=Hi hR0;clear P0 D0 e0 ho h256 hpD hb0 hbR hR0;go_enter Tryz.func74,Tryz.ntmps74;go_upto_region 1 with fail;clear hw0;go_wp2_with fail;refine cP.out.mono ?_;rintro e w1 ⟨k,r1,R,rfl,K1,N1,v1,P1⟩;have q4:=P1.c4;have q1:=P1.c1;have q5:=P1.c5;have hb2:=Hi (hb1.out.trans K1.below);have cR:=Hi (d_refuse P1 r1.at_);have RR:=Hi R;have hP1:=Hi P1;clear P1 R K1 N1 cP hb1
 by_cases hbad:r1.bad<0
 ·obtain ⟨q,hq⟩:∃ q,o=some q:=by
   cases ho:o with
   | none=>exact absurd (RR.out.D.none_ ho) (by omega)
   | some q=>exact ⟨q,rfl⟩
  obtain ⟨a1,a2,a3,a4,a5⟩:=RR.out.D.some_ q hq;have hpD2:=HpD.out;rw [hq] at hpD2;have bb:decide (r1.bad<0)=true:=decide_eq_true hbad
  by_cases hlt:r1.at_<s.size
  ·have H2:=Hi (show codeP s=140 by
    rw [H.out,hpD2]
    show (if q.1.isEmpty=true then 0 else 140)=_
    rw [← a2,bs_drop s _ hlt];rfl)
   have bl:(r1.at_:Int)<(s.size:Int):=by omega
   obtain ⟨k1,k2,k3,k4,k5⟩:=refuse_eq r1 r1.at_;obtain ⟨r2,hr2⟩:∃ r2,r1.refuse r1.at_=r2:=⟨_,rfl⟩
   rw [hr2] at cR k5;have bb2:r2.bad≥0:=k5;have hbd:=Hi hbad;clear k1 k2 k3 k4 k5 hr2 hq a1 a2 a3 a4 a5 hpD2;go_wp2_with fail;refine cR.out.mono ?_;rintro e w2 ⟨rfl,K2,v2,P2⟩;have q4:w2.cell? ⟨w0.heap.size,4,none⟩=some (.int .i64 r2.bad):=P2.c4;have hb3:=hb2.out.trans K2.below;have hR2:w2.heap[w.heap.size]?=some (.cells #[.slice none 0 0,.int .i64 0] 140 (0,0)):=(hb3.block _ hRl).trans HR0.out;have z0:=cell_of_row w2 w.heap.size 0 _ _ _ hR2;have z1:=cell_of_row w2 w.heap.size 1 _ _ _ hR2;simp only [List.getElem?_toArray,List.getElem?_cons_zero,List.getElem?_cons_succ] at z0 z1;have f0:w2.frozen? ⟨w.heap.size,0,none⟩=false:=by simp [World.frozen?,hR2]
   have f1:w2.frozen? ⟨w.heap.size,1,none⟩=false:=by simp [World.frozen?,hR2]
   have hb3:=Hi hb3;have hR2:=Hi hR2;have n1:w0.heap.size≠w.heap.size:=by omega
   clear cR P2 K2 hP1 q1 q5;go_upto_region 8 with fail
   go_region_law (fail)
   all_goals (
    have hT:=two_cells (.slice none 0 0) (.int .i64 0) hR2.out;have hbT:=(hb3.out.mono (Nat.le_of_lt hRl)).trans (two_below (w:=w2) (R:=w.heap.size) (B:=w.heap.size) (.slice none 0 0) (.int .i64 0) (Nat.le_refl _));obtain ⟨WT,hWT⟩:∃ WT,((w2.setCell ⟨w.heap.size,0,none⟩ (.slice none 0 0)).setCell ⟨w.heap.size,1,none⟩ (.int .i64 0))=WT:=⟨_,rfl⟩
    rw [hWT] at hT hbT ⊢;have y0:WT.drew.cell? ⟨w.heap.size,0,none⟩=some (.slice none 0 0):=cell_of_row WT w.heap.size 0 _ _ _ hT;have y1:WT.drew.cell? ⟨w.heap.size,1,none⟩=some (.int .i64 0):=cell_of_row WT w.heap.size 1 _ _ _ hT;have hbT:Below w.heap.size w WT.drew:=HbR.out.trans (hbT.trans ((Qt.self WT 1).below _));go_wp2_with fail;refine bodyPost_ret (v:=.tuple #[.agg #[(.slice none 0 0),(.int .i64 0)],.int .i64 140,.int .i64 r2.bad]) (by simp [results,Tryz.results74,go_sem,y0,y1]) rfl ?_
    exact ⟨hbT,_,_,_,_,_,by rw [H2.out]⟩)
  ·have H2:=Hi (show codeP s=0 by
    rw [H.out,hpD2]
    show (if q.1.isEmpty=true then 0 else 140)=_
    rw [← a2,bs_drop_end s _ hlt];rfl)
   have bl:¬ (r1.at_:Int)<(s.size:Int):=by omega
   have b8:¬ r1.bad≥0:=by omega
   have hR2:w1.heap[w.heap.size]?=some (.cells #[.slice none 0 0,.int .i64 0] 140 (0,0)):=(hb2.out.block _ hRl).trans HR0.out
   obtain ⟨Av,mv,cv,rfl⟩:∃ A m c,v1=.slice A m c:=by
    rcases Go.Joins.ownsRow_forms hP1.out.row with ⟨h,_⟩|⟨g,c,h⟩<;>exact ⟨_,_,_,h⟩
   have z0:=cell_of_row w1 w.heap.size 0 _ _ _ hR2;have z1:=cell_of_row w1 w.heap.size 1 _ _ _ hR2;simp only [List.getElem?_toArray,List.getElem?_cons_zero,List.getElem?_cons_succ] at z0 z1;have f0:w1.frozen? ⟨w.heap.size,0,none⟩=false:=by simp [World.frozen?,hR2]
   have f1:w1.frozen? ⟨w.heap.size,1,none⟩=false:=by simp [World.frozen?,hR2]
   have n1:w0.heap.size≠w.heap.size:=by omega
   have hR2:=Hi hR2;clear cR hq a1 a2 a3 a4 a5 hpD2;go_upto_region 9 with fail;go_wp2_with fail;have hT:=two_cells (.slice Av mv cv) (.int .i64 k) hR2.out;have hbT:=(hb2.out.mono (Nat.le_of_lt hRl)).trans (two_below (w:=w1) (R:=w.heap.size) (B:=w.heap.size) (.slice Av mv cv) (.int .i64 k) (Nat.le_refl _));obtain ⟨WT,hWT⟩:∃ WT,((w1.setCell ⟨w.heap.size,0,none⟩ (.slice Av mv cv)).setCell ⟨w.heap.size,1,none⟩ (.int .i64 k))=WT:=⟨_,rfl⟩
   rw [hWT] at hT hbT ⊢;have y0:WT.cell? ⟨w.heap.size,0,none⟩=some (.slice Av mv cv):=cell_of_row WT w.heap.size 0 _ _ _ hT;have y1:WT.cell? ⟨w.heap.size,1,none⟩=some (.int .i64 k):=cell_of_row WT w.heap.size 1 _ _ _ hT;have hbT:Below w.heap.size w WT:=HbR.out.trans hbT;refine bodyPost_ret (v:=.tuple #[.agg #[.slice Av mv cv,.int .i64 k],.int .i64 0,.int .i64 0]) (by simp [results,Tryz.results74,go_sem,y0,y1]) rfl ?_
   exact ⟨hbT,_,_,_,_,_,by rw [H2.out]⟩
 ·have b8:r1.bad≥0:=by omega
  have H2:=Hi (show codeP s=140 by
   rw [H.out,HpD.out]
   cases ho:o with
   | none=>rfl
   | some q=>exact absurd (RR.out.D.some_ q ho).1 hbad)
  have bb:¬ r1.bad<0:=hbad;have hR2:w1.heap[w.heap.size]?=some (.cells #[.slice none 0 0,.int .i64 0] 140 (0,0)):=(hb2.out.block _ hRl).trans HR0.out;have z0:=cell_of_row w1 w.heap.size 0 _ _ _ hR2;have z1:=cell_of_row w1 w.heap.size 1 _ _ _ hR2;simp only [List.getElem?_toArray,List.getElem?_cons_zero,List.getElem?_cons_succ] at z0 z1;have f0:w1.frozen? ⟨w.heap.size,0,none⟩=false:=by simp [World.frozen?,hR2]
  have f1:w1.frozen? ⟨w.heap.size,1,none⟩=false:=by simp [World.frozen?,hR2]
  have n1:w0.heap.size≠w.heap.size:=by omega
  have hR2:=Hi hR2;clear cR hbad;go_upto_region 8 with fail
  go_region_law (fail)
  all_goals (
   have hT:=two_cells (.slice none 0 0) (.int .i64 0) hR2.out;have hbT:=(hb2.out.mono (Nat.le_of_lt hRl)).trans (two_below (w:=w1) (R:=w.heap.size) (B:=w.heap.size) (.slice none 0 0) (.int .i64 0) (Nat.le_refl _));obtain ⟨WT,hWT⟩:∃ WT,((w1.setCell ⟨w.heap.size,0,none⟩ (.slice none 0 0)).setCell ⟨w.heap.size,1,none⟩ (.int .i64 0))=WT:=⟨_,rfl⟩
   rw [hWT] at hT hbT ⊢;have y0:WT.drew.cell? ⟨w.heap.size,0,none⟩=some (.slice none 0 0):=cell_of_row WT w.heap.size 0 _ _ _ hT;have y1:WT.drew.cell? ⟨w.heap.size,1,none⟩=some (.int .i64 0):=cell_of_row WT w.heap.size 1 _ _ _ hT;have hbT:Below w.heap.size w WT.drew:=HbR.out.trans (hbT.trans ((Qt.self WT 1).below _));go_wp2_with fail;refine bodyPost_ret (v:=.tuple #[.agg #[(.slice none 0 0),(.int .i64 0)],.int .i64 140,.int .i64 r1.bad]) (by simp [results,Tryz.results74,go_sem,y0,y1]) rfl ?_
   exact ⟨hbT,_,_,_,_,_,by rw [H2.out]⟩)
end Go.Proofs.YtjokciofeicdkaaGreatDoor
