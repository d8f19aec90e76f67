/- A part of the proof of RunParses: TraL TraM. -/
import Derived.Test.YtjokciofeicdkaaGreatDoorPU
import Derived.StillTailTactics
set_option maxHeartbeats 16000000
set_option maxRecDepth 100000
set_option linter.all false
namespace Go.Proofs.YtjokciofeicdkaaGreatDoor
open Go.RowKit
theorem wp_scope_rec {P:Program}{a:Act}{w:World}{Q:Exit→Act→World→Prop}{c:Code}(J:Nat→Act→World→Prop)(μ : Nat→Act→World→Nat)
  (pass:∀ l a w,J l a w→(∀ l' a' w',J l' a' w'→μ l' a' w' < μ l a w→∃ y,findLabel c l'=some (Code.seq .skip y)∧y.wp P (Exit.jumps (fun l2 a2 w2=>J l2 a2 w2∧μ l2 a2 w2 < μ l a w) Q) a' w') →
   ∃ y,findLabel c l=some (Code.seq .skip y)∧y.wp P (Exit.jumps (fun l' a' w'=>J l' a' w'∧μ l' a' w' < μ l a w) Q) a w)
  (first:(∀ l a w,J l a w→∃ y,findLabel c l=some (Code.seq .skip y)∧y.wp P (Exit.jumps J Q) a w)→c.wp P (Exit.jumps J Q) a w):(Code.scope c).wp P Q a w:=by
 refine wp_scope_many2 J μ ?_ first
 have key:∀ n l a w,μ l a w=n→J l a w→∃ y,findLabel c l=some (Code.seq .skip y)∧y.wp P (Exit.jumps (fun l' a' w'=>J l' a' w'∧μ l' a' w' < μ l a w) Q) a w:=by
  intro n
  induction n using Nat.strongRecOn with
  | _ n ih=>
    intro l a w hn hJ;refine pass l a w hJ fun l' a' w' hJ' hlt=>?_
    obtain ⟨y,hy,hw⟩:=ih _ (by omega) l' a' w' rfl hJ'
    exact ⟨y,hy,Code.wp_mono (fun e a2 w2 h=>by
     cases e<;>first|exact h|exact ⟨h.1,Nat.lt_trans h.2 hlt⟩) hw⟩
 exact fun l a w h=>key _ l a w rfl h
theorem open_info:(Tryz.prog.info? 262).map (fun i=>(i.zero,i.size,i.bytes))=some (some (.agg #[.slice none 0 0,.slice none 0 0]),2,48):=by kernel_rfl
theorem own_shape {w:World}{B n k:Nat}{T:TypeId}{v:Value}{xs:List Value}(h:w.ownsRow B T k v n xs):∃ A c,v=.slice A n c:=by
 rcases Go.Joins.ownsRow_forms h with ⟨rfl,rfl⟩|⟨g,cap,rfl⟩<;>exact ⟨_,_,rfl⟩
def sumL (l:List Lvl):Nat:=(l.map Lvl.wt).sum
theorem sumL_cons (t:Lvl)(ls:List Lvl):sumL (t::ls)=t.wt+sumL ls:=by simp [sumL]
theorem sumL_snoc (t:Lvl)(ls:List Lvl):sumL (ls++[t])=sumL ls+t.wt:=by simp [sumL]
structure TrOk (w0 w':World)(M B:Nat)(F:Nat→Prop)(s:ByteArray)(a i:Nat)(vo:Value)(ls:List Lvl)(t:Lvl):Prop where
 P:TrAt w' M B F s a i vo ls t
 at_:a≤s.size
 it:i≤48
 dp:ls.length≤32
 wt:sumL (t::ls)≤3*a
 bel:Below M w0 w'
theorem TrOk.start {w:World}{M B:Nat}{F:Nat→Prop}{s:ByteArray}{vo:Value}{t:Lvl}(P:TrAt w M B F s 0 0 vo [] t)(ht:t.wt=0):TrOk w w M B F s 0 0 vo [] t:=
 ⟨P,Nat.zero_le _,by omega,by simp,by simp [sumL,ht],Below.refl _ _⟩
def labC (l:Nat)(c:UInt8):Prop:=
 if l=1 then c.toNat=40 else if l=2 then c.toNat=41 else if l=3 then sufU c=true else if l=4 then c.toNat=124 else if l=5 then c.toNat=46 else if l=6 then c.toNat=33 else False
def lab (s:ByteArray)(R:Bool)(l a i:Nat)(ls:List Lvl)(t:Lvl)(x:Value):Prop:=
 if l=0 then R=mM ((bs s).drop a) i ls.length (!t.ps.isEmpty)
 else if l=7 then (∃ d:Bool,x=.bool d)∧letL ((bs s).drop a)=true∧R=match nameEnd ((bs s).drop a) with
  | none=>false
  | some q=>mM q i ls.length true
 else R=mM ((bs s).drop a) i ls.length (!t.ps.isEmpty)∧∃ (h:a<s.size),labC l s[a]
section
variable {s:ByteArray} {R:Bool} {l a i:Nat} {ls:List Lvl} {t:Lvl} {x:Value}
theorem lab_cases (h:lab s R l a i ls t x):l=0∨l=1∨l=2∨l=3∨l=4∨l=5∨l=6∨l=7:=by
 unfold lab at h
 split at h
 ·omega
 ·split at h
  ·omega
  ·obtain ⟨_,_,h⟩:=h;unfold labC at h
   (repeat' split at h)<;>first|omega|exact h.elim
theorem lab_start (hp:t.ps=[])(hl:ls=[])(hR:patM (bs s)=R):lab s R 0 0 0 ls t x:=by
 unfold lab;rw [if_pos rfl,← hR,hp,hl];rfl
theorem lab0 (h:lab s R 0 a i ls t x):R=mM ((bs s).drop a) i ls.length (!t.ps.isEmpty):=by unfold lab at h;rwa [if_pos rfl] at h
theorem lab7 (h:lab s R 7 a i ls t x):(∃ d:Bool,x=.bool d)∧letL ((bs s).drop a)=true∧R=match nameEnd ((bs s).drop a) with
  | none=>false
  | some q=>mM q i ls.length true:=by unfold lab at h;rwa [if_neg (by decide),if_pos rfl] at h
theorem lab_mid (h:lab s R l a i ls t x)(h0:l≠0)(h7:l≠7):R=mM ((bs s).drop a) i ls.length (!t.ps.isEmpty)∧∃ (h:a<s.size),labC l s[a]:=by unfold lab at h;rwa [if_neg h0,if_neg h7] at h
theorem mk_lab0 (h:R=mM ((bs s).drop a) i ls.length (!t.ps.isEmpty)):lab s R 0 a i ls t x:=by unfold lab;rwa [if_pos rfl]
theorem mk_lab7 {d:Bool}(h1:letL ((bs s).drop a)=true)(h:R=match nameEnd ((bs s).drop a) with
  | none=>false
  | some q=>mM q i ls.length true):lab s R 7 a i ls t (.bool d):=by unfold lab;rw [if_neg (by decide),if_pos rfl];exact ⟨⟨d,rfl⟩,h1,h⟩
theorem mk_mid (h:R=mM ((bs s).drop a) i ls.length (!t.ps.isEmpty))(h0:l≠0)(h7:l≠7)(ha:a<s.size)(hc:labC l s[a]):lab s R l a i ls t x:=by unfold lab;rw [if_neg h0,if_neg h7];exact ⟨h,ha,hc⟩
theorem mM_at (h:a<s.size)(it d:Nat)(ne:Bool):mM ((bs s).drop a) it d ne=mM (s[a]::(bs s).drop (a+1)) it d ne:=by rw [bs_drop s a h]
end
def trMu (s:ByteArray)(M l:Nat)(w:World):Nat:=2*(s.size+1-(intOf ((w.cell? ⟨M,1,none⟩).getD undef)).toNat)+if l=0 then 1 else 0
theorem TrAt.mu {w:World}{M B:Nat}{F:Nat→Prop}{s:ByteArray}{a i l:Nat}{vo:Value}{ls:List Lvl}{t:Lvl}(P:TrAt w M B F s a i vo ls t):trMu s M l w=2*(s.size+1-a)+if l=0 then 1 else 0:=by
 unfold trMu;rw [P.c1];rfl
theorem TrOk.dec {w w0 w1:World}{M B:Nat}{F:Nat→Prop}{s:ByteArray}{a a1 i1 l l1:Nat}{vo1:Value}{ls1:List Lvl}{t1:Lvl}(h:TrOk w0 w1 M B F s a1 i1 vo1 ls1 t1)(hmu:trMu s M l w=2*(s.size+1-a)+if l=0 then 1 else 0)
  (hd:a<a1∨(a=a1∧l=0∧l1≠0)):trMu s M l1 w1<trMu s M l w:=by
 have:=h.at_;rw [hmu,h.P.mu];rcases hd with h1|⟨h1,h2,h3⟩
 ·split<;>split<;>omega
 ·rw [if_pos h2,if_neg h3];omega
theorem TrOk.qt {w0 w1 w2:World}{M B:Nat}{F:Nat→Prop}{s:ByteArray}{a i:Nat}{vo:Value}{ls:List Lvl}{t:Lvl}(h:TrOk w0 w1 M B F s a i vo ls t)(hq:Qt w1 w2):TrOk w0 w2 M B F s a i vo ls t:=
 ⟨h.P.qt hq,h.at_,h.it,h.dp,h.wt,h.bel.trans (hq.below _)⟩
theorem TrOk.bM {w0 w1:World}{M B:Nat}{F:Nat→Prop}{s:ByteArray}{a i:Nat}{vo:Value}{ls:List Lvl}{t:Lvl}(h:TrOk w0 w1 M B F s a i vo ls t)(j:Nat)(v:Value):Below M w0 (w1.setCell ⟨M,j,none⟩ v):=h.bel.setCell (p:=⟨M,j,none⟩) (Nat.le_refl M) v
theorem TrOk.step {w0 w1:World}{M B:Nat}{F:Nat→Prop}{s:ByteArray}{a i:Nat}{vo:Value}{ls:List Lvl}{t:Lvl}(h:TrOk w0 w1 M B F s a i vo ls t)(hlt:a<s.size):TrOk w0 (w1.setCell ⟨M,1,none⟩ (.int .i64 ((a:Int)+1))) M B F s (a+1) i vo ls t:=
 ⟨h.P.setAt (a+1),hlt,h.it,h.dp,by have:=h.wt;omega,h.bM _ _⟩
theorem TrOk.item {w0 w1:World}{M B:Nat}{F:Nat→Prop}{s:ByteArray}{a i:Nat}{vo:Value}{ls:List Lvl}{t:Lvl}(h:TrOk w0 w1 M B F s a i vo ls t)(hi:¬ 48≤i):TrOk w0 (w1.setCell ⟨M,2,none⟩ (.int .i64 ((i:Int)+1))) M B F s a (i+1) vo ls t:=
 ⟨h.P.setIt (i+1),h.at_,by omega,h.dp,h.wt,h.bM _ _⟩
theorem sumL_mem {l:Lvl}:∀ {ls:List Lvl},l∈ls→l.wt≤sumL ls
 | x::r,h=>by
   rw [sumL_cons];rcases List.mem_cons.1 h with rfl|h
   ·omega
   ·have:=sumL_mem h;omega
theorem TrOk.wle {w0 w1:World}{M B:Nat}{F:Nat→Prop}{s:ByteArray}{a i:Nat}{vo:Value}{ls:List Lvl}{t:Lvl}(h:TrOk w0 w1 M B F s a i vo ls t)(hs:a≤1000:=by omega):t.wt≤50000:=by
 have:=h.wt;rw [sumL_cons] at this;omega
theorem LvlAt.psl {w:World}{B:Nat}{F:Nat→Prop}{l:Lvl}(h:LvlAt w B F l):l.ps.length≤l.wt:=by
 obtain ⟨n1,n2,hn,f1,f2⟩:=h.wt;have:=f2.len;omega
theorem LvlAt.csl {w:World}{B:Nat}{F:Nat→Prop}{l:Lvl}(h:LvlAt w B F l):l.cs.length≤l.wt:=by
 obtain ⟨n1,n2,hn,f1,f2⟩:=h.wt;have:=f1.len;omega
theorem TrOk.psl {w0 w1:World}{M B:Nat}{F:Nat→Prop}{s:ByteArray}{a i:Nat}{vo:Value}{ls:List Lvl}{t:Lvl}(h:TrOk w0 w1 M B F s a i vo ls t)(hs:a≤1000):t.ps.length≤10000:=by
 have:=(h.P.lvl t (List.mem_cons_self ..)).psl;have:=h.wt;rw [sumL_cons] at this;omega
theorem TrOk.psle {w0 w1:World}{M B:Nat}{F:Nat→Prop}{s:ByteArray}{a i:Nat}{vo:Value}{ls:List Lvl}{t:Lvl}(h:TrOk w0 w1 M B F s a i vo ls t)(hs:a≤1000):∀ l∈ls,l.ps.length≤50000:=fun l hl=>by
 have:=(h.P.lvl l (List.mem_cons_of_mem _ hl)).psl;have:=sumL_mem hl;have:=h.wt;rw [sumL_cons] at this;omega
theorem wp_of_pass {P:Program}{c y:Code}{Q:Exit→Act→World→Prop}{l:Nat}{a:Act}{w:World}(h:∃ y',findLabel c l=some (Code.seq .skip y')∧y'.wp P Q a w)(hy:findLabel c l=some (Code.seq .skip y)):y.wp P Q a w:=by
 obtain ⟨y',h1,h2⟩:=h;rw [hy] at h1
 injection h1 with h1
 injection h1 with _ h1
 subst h1;exact h2
theorem part_ne (l:Lvl)(v x:Value)(k:Nat):(!(l.part v x k).ps.isEmpty)=true:=by
 show (!(l.ps++[x]).isEmpty)=true
 cases l.ps<;>rfl
def TrPost (w w':World)(M B:Nat)(s:ByteArray)(R:Bool)(e:Ending):Prop:=
 e=.returned (.bool R)∧Below M w w'∧(∃ n:Nat,w'.cell? ⟨M,1,none⟩=some (.int .i64 n))∧(R=true→∃ (F:Nat→Prop) (a i:Nat) (vo:Value) (t:Lvl),TrAt w' M B F s a i vo [] t∧t.wt≤3*a∧a≤s.size)
end Go.Proofs.YtjokciofeicdkaaGreatDoor
namespace Go.Proofs.YtjokciofeicdkaaGreatDoor
open Go.RowKit
attribute [local go_sem ↓] Go.wp_at_zero Go.wp_at_succ
def TrJ (s:ByteArray)(M B:Nat)(w0:World)(R:Bool)(l:Nat):Act→World→Prop:=fun a' w'=>
 ∃ (a i:Nat) (F:Nat→Prop) (vo:Value) (ls:List Lvl) (t:Lvl) (f:Nat→Value),
  a'={ tmps:=#[.pointer (some ⟨M,0,none⟩),f 1,.bool false,f 3,f 4,f 5,f 6,f 7,f 8,f 9,f 10,f 11,f 12,f 13,f 14,f 15,f 16,f 17,f 18,f 19,f 20,f 21,f 22,f 23,f 24,f 25,f 26,f 27,f 28,f 29,f 30,f 31,f 32,f 33,f 34,f 35,f 36,f 37,f 38,f 39,f 40,f 41,f 42,f 43,f 44,f 45,f 46,f 47,f 48,f 49,f 50,f 51,f 52,f 53,f 54,f 55,f 56,f 57,f 58,f 59,f 60,f 61,f 62,f 63,f 64,f 65,f 66,f 67,f 68,f 69,f 70,f 71,f 72,f 73,f 74,f 75,f 76,f 77,f 78,f 79,f 80,f 81,f 82,f 83,f 84,f 85,f 86,f 87,f 88,f 89,f 90,f 91,f 92,f 93,f 94,f 95,f 96,f 97,f 98,f 99,f 100,f 101,f 102,f 103,f 104,f 105,f 106,f 107,f 108,f 109,f 110,f 111,f 112,f 113,f 114,f 115,f 116,f 117,f 118,f 119,f 120,f 121,f 122,f 123,f 124,f 125,f 126,f 127,f 128,f 129,f 130,f 131,f 132,f 133,f 134,f 135,f 136,f 137,f 138,f 139,f 140,f 141,f 142,f 143,f 144,f 145,f 146,f 147,f 148,f 149,f 150,f 151,f 152,f 153,f 154,f 155,f 156,f 157,f 158,f 159,f 160,f 161,f 162,f 163,f 164,f 165,f 166,f 167,f 168,f 169,f 170,f 171,f 172,f 173,f 174,f 175,f 176,f 177,f 178,f 179,f 180,f 181,f 182,f 183,f 184,f 185,f 186,f 187,f 188,f 189,f 190,f 191,f 192,f 193,f 194,f 195,f 196,f 197,f 198,f 199,f 200,f 201,f 202,f 203,f 204,f 205,f 206,f 207,f 208,f 209,f 210,f 211,f 212,f 213,f 214,f 215,f 216,f 217,f 218,f 219,f 220,f 221,f 222,f 223,f 224,f 225,f 226],defers:=[] } ∧
  Hid (TrOk w0 w' M B F s a i vo ls t)∧Hid (lab s R l a i ls t (f 3))
theorem trJ_mk {s:ByteArray}{M B:Nat}{w0 w':World}{R:Bool}(l a i:Nat){F:Nat→Prop}{vo:Value}{ls:List Lvl}{t:Lvl}{x1 x3 x4 x5 x6 x7 x8 x9 x10 x11 x12 x13 x14 x15 x16 x17 x18 x19 x20 x21 x22 x23 x24 x25 x26 x27 x28 x29 x30 x31 x32 x33 x34 x35 x36 x37 x38 x39 x40 x41 x42 x43 x44 x45 x46 x47 x48 x49 x50 x51 x52 x53 x54 x55 x56 x57 x58 x59 x60 x61 x62 x63 x64 x65 x66 x67 x68 x69 x70 x71 x72 x73 x74 x75 x76 x77 x78 x79 x80 x81 x82 x83 x84 x85 x86 x87 x88 x89 x90 x91 x92 x93 x94 x95 x96 x97 x98 x99 x100 x101 x102 x103 x104 x105 x106 x107 x108 x109 x110 x111 x112 x113 x114 x115 x116 x117 x118 x119 x120 x121 x122 x123 x124 x125 x126 x127 x128 x129 x130 x131 x132 x133 x134 x135 x136 x137 x138 x139 x140 x141 x142 x143 x144 x145 x146 x147 x148 x149 x150 x151 x152 x153 x154 x155 x156 x157 x158 x159 x160 x161 x162 x163 x164 x165 x166 x167 x168 x169 x170 x171 x172 x173 x174 x175 x176 x177 x178 x179 x180 x181 x182 x183 x184 x185 x186 x187 x188 x189 x190 x191 x192 x193 x194 x195 x196 x197 x198 x199 x200 x201 x202 x203 x204 x205 x206 x207 x208 x209 x210 x211 x212 x213 x214 x215 x216 x217 x218 x219 x220 x221 x222 x223 x224 x225 x226:Value}
  (hO:Hid (TrOk w0 w' M B F s a i vo ls t)) (hl:Hid (lab s R l a i ls t x3)) :
  TrJ s M B w0 R l { tmps:=#[.pointer (some ⟨M,0,none⟩),x1,.bool false,x3,x4,x5,x6,x7,x8,x9,x10,x11,x12,x13,x14,x15,x16,x17,x18,x19,x20,x21,x22,x23,x24,x25,x26,x27,x28,x29,x30,x31,x32,x33,x34,x35,x36,x37,x38,x39,x40,x41,x42,x43,x44,x45,x46,x47,x48,x49,x50,x51,x52,x53,x54,x55,x56,x57,x58,x59,x60,x61,x62,x63,x64,x65,x66,x67,x68,x69,x70,x71,x72,x73,x74,x75,x76,x77,x78,x79,x80,x81,x82,x83,x84,x85,x86,x87,x88,x89,x90,x91,x92,x93,x94,x95,x96,x97,x98,x99,x100,x101,x102,x103,x104,x105,x106,x107,x108,x109,x110,x111,x112,x113,x114,x115,x116,x117,x118,x119,x120,x121,x122,x123,x124,x125,x126,x127,x128,x129,x130,x131,x132,x133,x134,x135,x136,x137,x138,x139,x140,x141,x142,x143,x144,x145,x146,x147,x148,x149,x150,x151,x152,x153,x154,x155,x156,x157,x158,x159,x160,x161,x162,x163,x164,x165,x166,x167,x168,x169,x170,x171,x172,x173,x174,x175,x176,x177,x178,x179,x180,x181,x182,x183,x184,x185,x186,x187,x188,x189,x190,x191,x192,x193,x194,x195,x196,x197,x198,x199,x200,x201,x202,x203,x204,x205,x206,x207,x208,x209,x210,x211,x212,x213,x214,x215,x216,x217,x218,x219,x220,x221,x222,x223,x224,x225,x226],defers:=[] } w':=
 ⟨a,i,F,vo,ls,t,fun i=>(#[.pointer (some ⟨M,0,none⟩),x1,.bool false,x3,x4,x5,x6,x7,x8,x9,x10,x11,x12,x13,x14,x15,x16,x17,x18,x19,x20,x21,x22,x23,x24,x25,x26,x27,x28,x29,x30,x31,x32,x33,x34,x35,x36,x37,x38,x39,x40,x41,x42,x43,x44,x45,x46,x47,x48,x49,x50,x51,x52,x53,x54,x55,x56,x57,x58,x59,x60,x61,x62,x63,x64,x65,x66,x67,x68,x69,x70,x71,x72,x73,x74,x75,x76,x77,x78,x79,x80,x81,x82,x83,x84,x85,x86,x87,x88,x89,x90,x91,x92,x93,x94,x95,x96,x97,x98,x99,x100,x101,x102,x103,x104,x105,x106,x107,x108,x109,x110,x111,x112,x113,x114,x115,x116,x117,x118,x119,x120,x121,x122,x123,x124,x125,x126,x127,x128,x129,x130,x131,x132,x133,x134,x135,x136,x137,x138,x139,x140,x141,x142,x143,x144,x145,x146,x147,x148,x149,x150,x151,x152,x153,x154,x155,x156,x157,x158,x159,x160,x161,x162,x163,x164,x165,x166,x167,x168,x169,x170,x171,x172,x173,x174,x175,x176,x177,x178,x179,x180,x181,x182,x183,x184,x185,x186,x187,x188,x189,x190,x191,x192,x193,x194,x195,x196,x197,x198,x199,x200,x201,x202,x203,x204,x205,x206,x207,x208,x209,x210,x211,x212,x213,x214,x215,x216,x217,x218,x219,x220,x221,x222,x223,x224,x225,x226]:Array Value).getD i undef,rfl,hO,hl⟩
theorem trJ_start {s:ByteArray}{M B:Nat}{w:World}{R:Bool}{F:Nat→Prop}{vo:Value}{t:Lvl}(hO:Hid (TrOk w w M B F s 0 0 vo [] t))(hl:Hid (lab s R 0 0 0 [] t (.bool false))) :
  TrJ s M B w R 0 { tmps:=#[.pointer (some ⟨M,0,none⟩),undef,.bool false,.bool false,undef,undef,undef,undef,undef,undef,undef,undef,undef,undef,undef,undef,undef,undef,undef,undef,undef,undef,undef,undef,undef,undef,undef,undef,undef,undef,undef,undef,undef,undef,undef,undef,undef,undef,undef,undef,undef,undef,undef,undef,undef,undef,undef,undef,undef,undef,undef,undef,undef,undef,undef,undef,undef,undef,undef,undef,undef,undef,undef,undef,undef,undef,undef,undef,undef,undef,undef,undef,undef,undef,undef,undef,undef,undef,undef,undef,undef,undef,undef,undef,undef,undef,undef,undef,undef,undef,undef,undef,undef,undef,undef,undef,undef,undef,undef,undef,undef,undef,undef,undef,undef,undef,undef,undef,undef,undef,undef,undef,undef,undef,undef,undef,undef,undef,undef,undef,undef,undef,undef,undef,undef,undef,undef,undef,undef,undef,undef,undef,undef,undef,undef,undef,undef,undef,undef,undef,undef,undef,undef,undef,undef,undef,undef,undef,undef,undef,undef,undef,undef,undef,undef,undef,undef,undef,undef,undef,undef,undef,undef,undef,undef,undef,undef,undef,undef,undef,undef,undef,undef,undef,undef,undef,undef,undef,undef,undef,undef,undef,undef,undef,undef,undef,undef,undef,undef,undef,undef,undef,undef,undef,undef,undef,undef,undef,undef,undef,undef,undef,undef,undef,undef,undef,undef,undef,undef,undef,undef,undef,undef,undef,undef,undef,undef,undef,undef,undef,undef,undef,undef,undef,undef,undef,undef],defers:=[] } w:=
 trJ_mk 0 0 0 hO hl
theorem t_run {w:World}{M B:Nat}{F:Nat→Prop}{s:ByteArray}{vo:Value}{t:Lvl}(P:TrAt w M B F s 0 0 vo [] t)(ht:t.wt=0)(hp:t.ps=[])(hs:s.size≤256) :
  Calls Tryz.prog 208 #[.pointer (some ⟨M,0,none⟩)] w fun e w'=>TrPost w w' M B s (patM (bs s)) e:=by
 obtain ⟨R,hR⟩:∃ R,patM (bs s)=R:=⟨_,rfl⟩
 rw [hR];have hOk:=Hi (TrOk.start P ht);have hLb:=Hi (lab_start (ls:=[]) (x:=.bool false) hp rfl hR);clear P hR hp ht;go_enter Tryz.func208,Tryz.ntmps208;go_wp2_with fail;refine wp_scope_rec (TrJ s M B w R) (fun l _ w'=>trMu s M l w') ?_ ?_
 ·rintro l a' w' ⟨a,i,F,vo,ls,t,f,rfl,hO,hL⟩ hih;have q0:=hO.out.P.c0;have q1:=hO.out.P.c1;have q2:=hO.out.P.c2;have q3:=hO.out.P.c3;have q4:=hO.out.P.c4;have q5:=hO.out.P.c5;have f1:=hO.out.P.free 1;have f2:=hO.out.P.free 2;have has:=hO.out.at_;have his:=hO.out.it;have hls:=hO.out.dp;have hmu:=Hi (hO.out.P.mu (l:=l));have bwa:=wS a (by omega)
  rcases lab_cases hL.out with rfl|rfl|rfl|rfl|rfl|rfl|rfl|rfl
  ·refine ⟨_,rfl,?_⟩;clear hih;have hR:=Hi (lab0 hL.out);have hO2:=Hi (fun k=>hO.out.qt (Qt.self w' k))
   have hOo:=hO.out.P.out;clear q2 q4 q5 f2 hL
   by_cases hlt:a<s.size
   ·have b1:((a:Int) == (s.size:Int))=false:=by rw [beq_eq_false_iff_ne];omega
    have b2:(a:Int)<(s.size:Int):=by omega
    have b0:(0:Int)≤(a:Int):=by omega
    clear hOo q3;go_wp2_with fail;go_quiet (fail);go_wp2_with fail;go_quiet (fail)
    by_cases h32:s[a].toNat=32
    ·have d32:((s[a].toNat:Int) == 32)=true:=by rw [h32];rfl
     have hR3:=Hi (show R=mM ((bs s).drop (a+1)) i ls.length (!t.ps.isEmpty) by rw [hR.out,mM_at hlt,mM_cons,if_pos h32])
     clear h32;go_wp2_with fail;go_step3
     (try simp only [Exit.jumps])
     exact ⟨trJ_mk 0 (a+1) i (Hi ((hO2.out _).step hlt)) (Hi (mk_lab0 hR3.out)),((hO2.out _).step hlt).dec hmu.out (.inl (Nat.lt_succ_self a))⟩
    have d32:((s[a].toNat:Int) == 32)=false:=by rw [beq_eq_false_iff_ne];omega
    have n32:=Hi h32;clear h32
    by_cases h40:s[a].toNat=40
    ·have d40:((s[a].toNat:Int) == 40)=true:=by rw [h40];rfl
     have hc:=Hi (show labC 1 s[a] from h40)
     clear h40;go_wp2_with fail;go_step3
     (try simp only [Exit.jumps])
     exact ⟨trJ_mk 1 a i (Hi (hO2.out _)) (Hi (mk_mid hR.out (by decide) (by decide) hlt hc.out)),(hO2.out _).dec hmu.out (.inr ⟨rfl,rfl,by decide⟩)⟩
    have d40:((s[a].toNat:Int) == 40)=false:=by rw [beq_eq_false_iff_ne];omega
    have n40:=Hi h40;clear h40
    by_cases h41:s[a].toNat=41
    ·have d41:((s[a].toNat:Int) == 41)=true:=by rw [h41];rfl
     have hc:=Hi (show labC 2 s[a] from h41)
     clear h41;go_wp2_with fail;go_step3
     (try simp only [Exit.jumps])
     exact ⟨trJ_mk 2 a i (Hi (hO2.out _)) (Hi (mk_mid hR.out (by decide) (by decide) hlt hc.out)),(hO2.out _).dec hmu.out (.inr ⟨rfl,rfl,by decide⟩)⟩
    have d41:((s[a].toNat:Int) == 41)=false:=by rw [beq_eq_false_iff_ne];omega
    have n41:=Hi h41;clear h41
    by_cases h42:s[a].toNat=42
    ·have d42:((s[a].toNat:Int) == 42)=true:=by rw [h42];rfl
     have hc:=Hi (show labC 3 s[a] from show sufU s[a]=true by unfold sufU;rw [h42];rfl)
     clear h42;go_wp2_with fail;go_step3
     (try simp only [Exit.jumps])
     exact ⟨trJ_mk 3 a i (Hi (hO2.out _)) (Hi (mk_mid hR.out (by decide) (by decide) hlt hc.out)),(hO2.out _).dec hmu.out (.inr ⟨rfl,rfl,by decide⟩)⟩
    have d42:((s[a].toNat:Int) == 42)=false:=by rw [beq_eq_false_iff_ne];omega
    have n42:=Hi h42;clear h42
    by_cases h43:s[a].toNat=43
    ·have d43:((s[a].toNat:Int) == 43)=true:=by rw [h43];rfl
     have hc:=Hi (show labC 3 s[a] from show sufU s[a]=true by unfold sufU;rw [h43];rfl)
     clear h43;go_wp2_with fail;go_step3
     (try simp only [Exit.jumps])
     exact ⟨trJ_mk 3 a i (Hi (hO2.out _)) (Hi (mk_mid hR.out (by decide) (by decide) hlt hc.out)),(hO2.out _).dec hmu.out (.inr ⟨rfl,rfl,by decide⟩)⟩
    have d43:((s[a].toNat:Int) == 43)=false:=by rw [beq_eq_false_iff_ne];omega
    have n43:=Hi h43;clear h43
    by_cases h63:s[a].toNat=63
    ·have d63:((s[a].toNat:Int) == 63)=true:=by rw [h63];rfl
     have hc:=Hi (show labC 3 s[a] from show sufU s[a]=true by unfold sufU;rw [h63];rfl)
     clear h63;go_wp2_with fail;go_step3
     (try simp only [Exit.jumps])
     exact ⟨trJ_mk 3 a i (Hi (hO2.out _)) (Hi (mk_mid hR.out (by decide) (by decide) hlt hc.out)),(hO2.out _).dec hmu.out (.inr ⟨rfl,rfl,by decide⟩)⟩
    have d63:((s[a].toNat:Int) == 63)=false:=by rw [beq_eq_false_iff_ne];omega
    have n63:=Hi h63;clear h63
    by_cases h124:s[a].toNat=124
    ·have d124:((s[a].toNat:Int) == 124)=true:=by rw [h124];rfl
     have hc:=Hi (show labC 4 s[a] from h124)
     clear h124;go_wp2_with fail;go_step3
     (try simp only [Exit.jumps])
     exact ⟨trJ_mk 4 a i (Hi (hO2.out _)) (Hi (mk_mid hR.out (by decide) (by decide) hlt hc.out)),(hO2.out _).dec hmu.out (.inr ⟨rfl,rfl,by decide⟩)⟩
    have d124:((s[a].toNat:Int) == 124)=false:=by rw [beq_eq_false_iff_ne];omega
    have n124:=Hi h124;clear h124
    by_cases h46:s[a].toNat=46
    ·have d46:((s[a].toNat:Int) == 46)=true:=by rw [h46];rfl
     have hc:=Hi (show labC 5 s[a] from h46)
     clear h46;go_wp2_with fail;go_step3
     (try simp only [Exit.jumps])
     exact ⟨trJ_mk 5 a i (Hi (hO2.out _)) (Hi (mk_mid hR.out (by decide) (by decide) hlt hc.out)),(hO2.out _).dec hmu.out (.inr ⟨rfl,rfl,by decide⟩)⟩
    have d46:((s[a].toNat:Int) == 46)=false:=by rw [beq_eq_false_iff_ne];omega
    have n46:=Hi h46;clear h46
    by_cases h33:s[a].toNat=33
    ·have d33:((s[a].toNat:Int) == 33)=true:=by rw [h33];rfl
     have hc:=Hi (show labC 6 s[a] from h33)
     clear h33;go_wp2_with fail;go_step3
     (try simp only [Exit.jumps])
     exact ⟨trJ_mk 6 a i (Hi (hO2.out _)) (Hi (mk_mid hR.out (by decide) (by decide) hlt hc.out)),(hO2.out _).dec hmu.out (.inr ⟨rfl,rfl,by decide⟩)⟩
    have d33:((s[a].toNat:Int) == 33)=false:=by rw [beq_eq_false_iff_ne];omega
    have n33:=Hi h33;clear h33
    have hR4:=Hi (show R=if letterU s[a]=false then false else if 48≤i then false else match nameEnd ((bs s).drop a) with
       | none=>false
       | some q=>mM q (i+1) ls.length true by
     rw [hR.out,mM_at hlt,mM_cons,if_neg n32.out,if_neg n40.out,if_neg n41.out,if_neg (by unfold sufU;simp [n42.out,n43.out,n63.out]),if_neg n124.out,if_neg n46.out,if_neg n33.out,bs_drop s a hlt];rfl)
    have hlL:letL ((bs s).drop a)=letterU s[a]:=by rw [bs_drop s a hlt];rfl
    have hlL:=Hi hlL;have cl:=Hi (fun k=>t_letter ((hO2.out k).P.c0) a (by omega))
    have ci:=Hi (fun k=>t_item ((hO2.out k).P.c2) ((hO2.out k).P.free 2) (by omega))
    clear hR n32 n40 n41 n42 n43 n63 n124 n46 n33
    cases hl:letterU s[a] with
    | false=>
      have hR5:=Hi (hR4.out.trans (if_pos hl));rw [hlL.out,hl] at cl;clear hR4 hl hlL ci;go_wp2_with (go_at_call 220;refine (cl.out _).mono ?_;rintro e w1 ⟨rfl,rfl⟩)
      (try simp only [Exit.jumps])
      go_ret;exact ⟨by rw [hR5.out];rfl,(hO2.out _).bel,⟨_,(hO2.out _).P.c1⟩,fun h=>by rw [hR5.out] at h;cases h⟩
    | true=>
      have hlT:=Hi (hlL.out.trans hl);have hR5:=Hi (hR4.out.trans (if_neg (by rw [hl];decide)))
      rw [hlL.out,hl] at cl;clear hR4 hl hlL
      by_cases h48:48≤i
      ·have hR6:=Hi (hR5.out.trans (if_pos h48));rw [show (!decide (48≤i))=false by simpa using h48] at ci
       clear hR5 h48;go_wp2_with (first|(go_at_call 220;refine (cl.out _).mono ?_;rintro e w1 ⟨rfl,rfl⟩)|(go_at_call 221;refine (ci.out _).mono ?_;rintro e w1 ⟨rfl,rfl⟩))
       (try simp only [Exit.jumps])
       go_ret;exact ⟨by rw [hR6.out];rfl,(hO2.out _).bM _ _,⟨_,((hO2.out _).P.setIt (i+1)).c1⟩,fun h=>by rw [hR6.out] at h;cases h⟩
      ·have hR6:=Hi (hR5.out.trans (if_neg h48));rw [show (!decide (48≤i))=true by simpa using h48] at ci
       have h48:=Hi h48;clear hR5;go_wp2_with (first|(go_at_call 220;refine (cl.out _).mono ?_;rintro e w1 ⟨rfl,rfl⟩)|(go_at_call 221;refine (ci.out _).mono ?_;rintro e w1 ⟨rfl,rfl⟩))
       go_step3
       (try simp only [Exit.jumps])
       exact ⟨trJ_mk 7 a (i+1) (Hi ((hO2.out _).item h48.out)) (Hi (mk_lab7 hlT.out hR6.out)),((hO2.out _).item h48.out).dec hmu.out (.inr ⟨rfl,rfl,by decide⟩)⟩
   ·have hae:a=s.size:=by omega
    have b1:((a:Int) == (s.size:Int))=true:=by rw [hae];exact beq_self_eq_true _
    have hR3:=Hi (show R=(ls.length == 0) by rw [hR.out,bs_drop_end s a hlt,mM_nil])
    clear hlt hae hR;rcases Go.Joins.ownsRow_forms hOo with ⟨rfl,h0⟩|⟨g,cap,rfl⟩
    ·have h0:=Hi h0;clear hOo;go_wp2_with fail;go_quiet (fail);go_wp2_with fail
     (try simp only [Exit.jumps])
     go_ret;obtain rfl:ls=[]:=List.length_eq_zero_iff.1 h0.out;exact ⟨by rw [hR3.out];rfl,(hO2.out _).bel,⟨_,(hO2.out _).P.c1⟩,fun _=>⟨F,a,i,_,t,(hO2.out _).P,by have:=hO.out.wt;simpa [sumL] using this,has⟩⟩
    ·clear hOo;go_wp2_with fail;go_quiet (fail);go_wp2_with fail
     (try simp only [Exit.jumps])
     go_ret;refine ⟨ret_bool ?_,(hO2.out _).bel,⟨_,(hO2.out _).P.c1⟩,fun h=>?_⟩
     ·rw [hR3.out,Bool.eq_iff_iff];simp
     ·rw [hR3.out] at h;obtain rfl:ls=[]:=List.length_eq_zero_iff.1 (by simpa using h)
      exact ⟨F,a,i,_,t,(hO2.out _).P,by have:=hO.out.wt;simpa [sumL] using this,has⟩
  ·refine ⟨_,rfl,?_⟩;clear hih;obtain ⟨hR,hlt,hC⟩:=lab_mid hL.out (by decide) (by decide)
   have hC:s[a].toNat=40:=hC;have hR:=Hi (show R=if 32≤ls.length then false else mM ((bs s).drop (a+1)) i (ls.length+1) false by rw [hR,mM_at hlt,mM_cons,if_neg (by omega),if_pos hC])
   have ho:=hO.out.P.out;have hMl:=hO.out.P.lt;have hMo:=Hi hO.out.P.mo;have hBs:=hO.out.P.bB;have f3:=hO.out.P.free 3;have f4:=hO.out.P.free 4;have f5:=hO.out.P.free 5;clear hC hL q0 f2
   by_cases h32:32≤ls.length
   ·have hR2:=Hi (hR.out.trans (if_pos h32));obtain ⟨g,cap,rfl⟩:=Go.Joins.ownsRow_form ho (by omega)
    have b32:(ls.length:Int)≥32:=by omega
    clear hR h32 ho;go_wp2_with fail
    (try simp only [Exit.jumps])
    go_ret;exact ⟨by rw [hR2.out];rfl,hO.out.bel,⟨_,hO.out.P.c1⟩,fun h=>by rw [hR2.out] at h;cases h⟩
   ·have hR2:=Hi (hR.out.trans (if_neg h32));have b32:¬ (ls.length:Int)≥32:=by omega
    have hO3:=Hi ho;obtain ⟨⟨A1,m1,c1,hvc⟩,⟨A2,m2,c2,hvp⟩⟩:=lvl_shape (hO.out.P.lvl t (List.mem_cons_self ..));have hvc2:=Hi hvc;have hvp2:=Hi hvp;rw [hvc] at q4;rw [hvp] at q5;obtain ⟨i0,hi0,hz0,hz1,hz2⟩:=info_parts open_info;have hi0:=Hi hi0;have hz0:=Hi hz0;have hz1:=Hi hz1;have hz2:=Hi hz2;clear hR h32 hvc hvp;obtain ⟨A0,c0,rfl⟩:=own_shape ho;clear ho;go_upto_region 20 with fail
    go_cut [78] (fun y wx=>∃ (g' cap':Nat) (w4:World),wx=w4.setCell ⟨M,3,none⟩ (.slice (some ⟨g',0,none⟩) (ls.length+1) cap')∧Hid ((w'.alloc (.cells #[.slice A1 m1 c1,.slice A2 m2 c2] 262)).grownBy w4 (Value.slice A0 ls.length c0).ownBlock)∧Hid ((Value.slice A0 ls.length c0).ownBlock=some g'∨g'=w'.heap.size+1)∧Hid (w4.ownsRow B 262 2 (.slice (some ⟨g',0,none⟩) (ls.length+1) cap') (ls.length+1) (flatL ls++[.slice A1 m1 c1,.slice A2 m2 c2])))
    case first=>
     go_region_law (refine step_append_lies _ (by rfl) (.tmp 72) (.tmp 77) _ (by rfl) B 262 i0 _ 2 48 Tryz.underlying259 hi0.out hz0.out hz1.out hz2.out rfl (by decide) (.slice A0 ls.length c0) ls.length (flatL ls) (by rfl) ((World.ownsRow.alloc hO3.out _).drew) ⟨w'.heap.size,0,none⟩ 1 1 [.slice A1 m1 c1,.slice A2 m2 c2] (by rfl) (by rfl) (World.news_of_block (heap_alloc_new w' _)) (oc _ rfl) (by decide) (by unfold maxLen;omega) (by omega) (by simp;omega) (w'.heap.size+1) (by simp) ?_;intro g' cap' w4 hown4 hg4 hat4 hlt4;have q34:=hg4.cell (((Below.refl _ w').alloc (Nat.le_refl _) (.cells #[.slice A1 m1 c1,.slice A2 m2 c2] 262)).cell (p:=⟨M,3,none⟩) hMl |>.trans q3) (fun e=>hMo.out e.symm);have f34:=(hg4.frozen_far (a:=⟨M,3,none⟩) (by simp;omega) (fun e=>hMo.out e.symm)).trans ((((Below.refl _ w').alloc (Nat.le_refl _) (.cells #[.slice A1 m1 c1,.slice A2 m2 c2] 262)).frozen (p:=⟨M,3,none⟩) hMl).trans f3);have hown5:=Hi hown4;have hg5:=Hi hg4;have hat5:=Hi hat4;clear hown4 hg4 hat4)
     all_goals (
      clear q34 f34;go_wp2_with fail;go_meet;exact ⟨g',cap',w4,rfl,Hi (grown_undrew hg5.out),hat5,hown5⟩)
    case rest=>
     obtain ⟨g',cap',w4,rfl,hg5,hat5,hown5⟩:=hcut;have hP:=hO.out.P;have e4:w4.heap[M]?=w'.heap[M]?:=(hg5.out.block M (by simp;omega) (fun e=>hMo.out e.symm)).trans (heap_alloc_old w' _ hMl)
     rw [← hvc2.out,← hvp2.out] at hg5 hown5;obtain ⟨P4,B4⟩:=hP.opens hg5.out hat5.out hown5.out;have z1:=(World.cell?_of_block (a:=⟨M,1,none⟩) e4).trans q1;have z4:=(World.cell?_of_block (a:=⟨M,4,none⟩) e4).trans q4;have z5:=(World.cell?_of_block (a:=⟨M,5,none⟩) e4).trans q5;have y1:=(World.frozen?_of_block (a:=⟨M,1,none⟩) e4).trans f1;have y4:=(World.frozen?_of_block (a:=⟨M,4,none⟩) e4).trans f4;have y5:=(World.frozen?_of_block (a:=⟨M,5,none⟩) e4).trans f5;have hO4:TrOk w _ M B F s (a+1) i _ (ls++[t]) _:=⟨P4.setAt (a+1),hlt,his,by simp;omega,by have:=hO.out.wt;rw [sumL_cons,sumL_snoc];rw [sumL_cons] at this;show 0+_≤_;omega,(hO.out.bel.trans B4).setCell (p:=⟨M,1,none⟩) (Nat.le_refl M) _⟩
     have hO4:=Hi hO4;clear P4 B4 hg5 hat5 hown5 q1 q3 q4 q5 f1 f3 f4 f5 hP e4;go_wp2_with fail;go_step3
     (try simp only [Exit.jumps])
     exact ⟨trJ_mk 0 (a+1) i hO4 (Hi (mk_lab0 (by rw [hR2.out];simp))),hO4.out.dec hmu.out (.inl (Nat.lt_succ_self a))⟩
  ·refine ⟨_,rfl,?_⟩;clear hih;obtain ⟨hR,hlt,hC⟩:=lab_mid hL.out (by decide) (by decide)
   have hC:s[a].toNat=41:=hC;have hR:=Hi (show R=if ls.length=0 then false else mM ((bs s).drop (a+1)) i (ls.length-1) true by rw [hR,mM_at hlt,mM_cons,if_neg (by omega),if_neg (by omega),if_pos hC])
   have cc:=Hi (t_close hO.out.P (by omega) (by omega) hO.out.wle (hO.out.psle (by omega)))
   clear hC hL q0 q1 q2 q3 q4 q5 f1 f2
   by_cases h0:ls=[]
   ·have hR2:=Hi (hR.out.trans (if_pos (by rw [h0];rfl)))
    have h0:=Hi h0;clear hR;go_wp2_with (go_at_call 222;refine cc.out.mono ?_;rintro e w1 hx;obtain ⟨rfl,rfl⟩:=hx.1 h0.out;clear hx)
    (try simp only [Exit.jumps])
    go_ret;exact ⟨by rw [hR2.out];rfl,hO.out.bel,⟨_,hO.out.P.c1⟩,fun h=>by rw [hR2.out] at h;cases h⟩
   ·obtain ⟨l0,l,rfl⟩:∃ l0 l,ls=l0++[l]:=(List.eq_nil_or_concat ls).resolve_left h0 |>.imp fun l0 h=>h.imp fun l h=>by simpa using h
    have hR2:=Hi (hR.out.trans (if_neg (by simp)))
    clear hR h0;go_wp2_with (go_at_call 222;refine cc.out.mono ?_;rintro e w1 hx;obtain ⟨rfl,hb,F2,vo2,v2,x2,k2,hk2,P2⟩:=hx.2 l0 l rfl;have hb:=Hi hb;have P2:=Hi P2;clear hx);go_step3
    (try simp only [Exit.jumps])
    have hO4:TrOk w w1 M B F2 s (a+1) i vo2 l0 (l.part v2 x2 k2):=⟨P2.out,hlt,his,by simp at hls;omega,by have:=hO.out.wt;rw [sumL_cons,sumL_snoc] at this;rw [sumL_cons];show l.wt+k2+_≤_;omega,hO.out.bel.trans hb.out⟩
    exact ⟨trJ_mk 0 (a+1) i (Hi hO4) (Hi (mk_lab0 (by rw [hR2.out,part_ne];try simp))),hO4.dec hmu.out (.inl (Nat.lt_succ_self a))⟩
  ·refine ⟨_,rfl,?_⟩;clear hih;obtain ⟨hR,hlt,hC⟩:=lab_mid hL.out (by decide) (by decide)
   have hC:sufU s[a]=true:=hC
   have hC2:s[a].toNat=42∨s[a].toNat=43∨s[a].toNat=63:=by
    unfold sufU at hC;simp only [Bool.or_eq_true,beq_iff_eq] at hC;omega
   have hR:=Hi (show R=if (!t.ps.isEmpty)=false then false else if 48≤i then false else mM ((bs s).drop (a+1)) (i+1) ls.length true by
    rw [hR,mM_at hlt,mM_cons,if_neg (by omega),if_neg (by omega),if_neg (by omega),if_pos hC])
   have ci:=Hi (t_item q2 f2 (by omega))
   have hop:OwnT w' B t.vp t.ps:=(hO.out.P.lvl t (List.mem_cons_self ..)).p;have hpl:=hO.out.psl (by omega)
   have c128:s[a].toNat<128:=by omega
   clear hC hC2 hL q0 q1 q3 q4 f1
   by_cases hpe:t.ps=[]
   ·have hR2:=Hi (hR.out.trans (if_pos (by rw [hpe];rfl)))
    have hp0:=(hO.out.P.lvl t (List.mem_cons_self ..)).pn hpe;rw [hp0] at q5;clear hR hop hpe ci;go_wp2_with fail
    (try simp only [Exit.jumps])
    go_ret;exact ⟨by rw [hR2.out];rfl,hO.out.bel,⟨_,hO.out.P.c1⟩,fun h=>by rw [hR2.out] at h;cases h⟩
   ·obtain ⟨r,u,hru⟩:∃ r u,t.ps=r++[u]:=(List.eq_nil_or_concat t.ps).resolve_left hpe |>.imp fun l0 h=>h.imp fun l h=>by simpa using h
    have hlen:t.ps.length=r.length+1:=by rw [hru];simp
    obtain ⟨ua,uv,rfl⟩:∃ ua uv,u=.iface ua uv:=by
     obtain ⟨n1,n2,_,_,fp⟩:=(hO.out.P.lvl t (List.mem_cons_self ..)).wt;rw [hru] at fp;obtain ⟨_,_,_,_,fu⟩:=fp.split;exact fu.iface
    unfold OwnT at hop;obtain ⟨g,cap,hvp⟩:=Go.Joins.ownsRow_form hop (by omega)
    rw [hvp] at q5 hop;have hgl:=hop.lt g rfl;have hu:w'.cell? ⟨g,r.length,none⟩=some (.iface ua uv):=by rw [hop.cellAt _ (by omega),hru,List.getElem?_append_right (Nat.le_refl _),Nat.sub_self];rfl
    have hfg:=hop.frozenAt r.length;rw [hlen] at q5 hvp
    have hR2:=Hi (hR.out.trans (if_neg (by
     cases hpe2:t.ps with
     | nil=>exact absurd hpe2 hpe
     | cons x y=>simp)))
    have hvp:=Hi hvp;have hru:=Hi hru;have bne:(((r.length:Int)+1) == 0)=false:=by rw [beq_eq_false_iff_ne];omega
    clear hR hop hpe
    by_cases h48:48≤i
    ·have hR3:=Hi (hR2.out.trans (if_pos h48));rw [show (!decide (48≤i))=false by simpa using h48] at ci
     clear hR2 h48;go_wp2_with (go_at_call 221;refine ci.out.mono ?_;rintro e w1 ⟨rfl,rfl⟩)
     (try simp only [Exit.jumps])
     go_ret;exact ⟨by rw [hR3.out];rfl,hO.out.bM _ _,⟨_,(hO.out.P.setIt (i+1)).c1⟩,fun h=>by rw [hR3.out] at h;cases h⟩
    ·have hR3:=Hi (hR2.out.trans (if_neg h48));rw [show (!decide (48≤i))=true by simpa using h48] at ci
     have hO2:=Hi (hO.out.item h48);clear hR2 h48 q2;go_upto_region 27 with (go_at_call 221;refine ci.out.mono ?_;rintro e w1 ⟨rfl,rfl⟩);have hgM:g≠M:=by have:=hO.out.P.bM;omega
     have hu:(w'.setCell ⟨M,2,none⟩ (.int .i64 ((i:Int)+1))).cell? ⟨g,r.length,none⟩=some (.iface ua uv):=(World.cell?_of_block (a:=⟨g,r.length,none⟩) (setM_other hgM)).trans hu;have hfg:(w'.setCell ⟨M,2,none⟩ (.int .i64 ((i:Int)+1))).frozen? ⟨g,r.length,none⟩=false:=(World.frozen?_of_block (a:=⟨g,r.length,none⟩) (setM_other hgM)).trans hfg;generalize w'.setCell ⟨M,2,none⟩ (.int .i64 ((i:Int)+1))=W at *;have q0:=hO2.out.P.c0;have q1:=hO2.out.P.c1;have q5:=hO2.out.P.c5;rw [hvp.out] at q5;have bw1:IntKind.i64.wrap ((r.length:Int)+1-1)=(r.length:Int):=(congrArg _ (by omega)).trans (IntWalk.i64_in _ (by omega))
     have bw2:IntKind.i64.wrap (r.length:Int)=(r.length:Int):=IntWalk.i64_in _ (by omega)
     have b1:(r.length:Int)<(r.length:Int)+1:=by omega
     have b0:(0:Int)≤(r.length:Int):=by omega
     have b2:(a:Int)<(s.size:Int):=by omega
     have b3:(0:Int)≤(a:Int):=by omega
     have hO2:Hid (TrOk w W.drew M B F s a (i+1) vo ls t):=Hi (hO2.out.qt (Qt.self W 1));have hvp2:Hid (t.vp=.slice (some ⟨g,0,none⟩) t.ps.length cap):=Hi (by rw [hlen];exact hvp.out)
     clear ci f2 hlen hgM hgl
     go_cut [143] (fun y wx=>wx=W.drew.setCell ⟨g,r.length,none⟩ (.iface 282 (.agg #[.iface ua uv,.int .u8 s[a].toNat])))
     case first=>
      go_still_tail 38,(by kernel_rfl)
      go_wp2_with fail;go_meet
      rfl
     case rest=>
      subst hcut;obtain ⟨P4,B4⟩:=hO2.out.P.suffixed c128 hvp2.out hru.out;have z1:=P4.c1;have y1:=P4.free 1;have hO4:TrOk w _ M B F s (a+1) (i+1) vo ls _:=⟨P4.setAt (a+1),hlt,hO2.out.it,hls,by have:=hO.out.wt;rw [sumL_cons] at this ⊢;show t.wt+1+_≤_;omega,(hO2.out.bel.trans B4).setCell (p:=⟨M,1,none⟩) (Nat.le_refl M) _⟩
      have hO4:=Hi hO4;clear P4 B4 q0 q1 q5 hu hfg;generalize W.drew.setCell ⟨g,r.length,none⟩ (.iface 282 (.agg #[.iface ua uv,.int .u8 s[a].toNat]))=W2 at *;go_wp2_with fail;go_step3
      (try simp only [Exit.jumps])
      exact ⟨trJ_mk 0 (a+1) (i+1) hO4 (Hi (mk_lab0 (by rw [hR3.out];congr 1;cases r<;>rfl))),hO4.out.dec hmu.out (.inl (Nat.lt_succ_self a))⟩
  ·refine ⟨_,rfl,?_⟩;clear hih;obtain ⟨hR,hlt,hC⟩:=lab_mid hL.out (by decide) (by decide)
   have hC:s[a].toNat=124:=hC
   have hR:=Hi (show R=if 48≤i then false else mM ((bs s).drop (a+1)) (i+1) ls.length false by
    rw [hR,mM_at hlt,mM_cons,if_neg (by omega),if_neg (by omega),if_neg (by omega),if_neg (by unfold sufU;simp [hC]),if_pos hC])
   have ci:=Hi (t_item q2 f2 (by omega))
   clear hC hL q0 q1 q3 q4 q5 f1
   by_cases h48:48≤i
   ·have hR2:=Hi (hR.out.trans (if_pos h48));rw [show (!decide (48≤i))=false by simpa using h48] at ci
    clear hR h48;go_wp2_with (go_at_call 221;refine ci.out.mono ?_;rintro e w1 ⟨rfl,rfl⟩)
    (try simp only [Exit.jumps])
    go_ret;exact ⟨by rw [hR2.out];rfl,hO.out.bM _ _,⟨_,(hO.out.P.setIt (i+1)).c1⟩,fun h=>by rw [hR2.out] at h;cases h⟩
   ·have hR2:=Hi (hR.out.trans (if_neg h48));rw [show (!decide (48≤i))=true by simpa using h48] at ci
    have hO2:=Hi (hO.out.item h48);clear hR h48 q2 f2;go_upto_region 31 with (go_at_call 221;refine ci.out.mono ?_;rintro e w1 ⟨rfl,rfl⟩);generalize w'.setCell ⟨M,2,none⟩ (.int .i64 ((i:Int)+1))=W at *;clear ci;obtain ⟨i0,hi0,hz0,hz1,hz2⟩:=info_parts tree_info;have hi0:=Hi hi0;have hz0:=Hi hz0;have hz1:=Hi hz1;have hz2:=Hi hz2;have q4:=hO2.out.P.c4;have q5:=hO2.out.P.c5;have hO2:Hid (TrOk w W.drew M B F s a (i+1) vo ls t):=Hi (hO2.out.qt (Qt.self W 1));have hlv:=hO2.out.P.lvl t (List.mem_cons_self ..);obtain ⟨n1,n2,hn,fc,fp⟩:=hlv.wt;have hcl:=hlv.csl;have hwt:=hO2.out.wle (by omega)
    have cS:=Hi (t_newSeq (lvl_row hlv).2 fp hO2.out.P.flt (by omega))
    have fc:=Hi fc;clear hlv fp
    go_cut [168] (fun y wx=>∃ (g' cap' k:Nat) (x:Value) (F1:Nat→Prop) (w1 w4:World),wx=w4.setCell ⟨M,4,none⟩ (.slice (some ⟨g',0,none⟩) (t.cs.length+1) cap')∧Hid (TrAt w1 M B F1 s a (i+1) vo ls t)∧Hid (Forest w1 F1 t.cs n1)∧Hid (Forest w1 F1 [x] k)∧k≤n2+1∧Hid (Below M W.drew w1)∧Hid ((w1.alloc (.cells #[x] 266)).grownBy w4 t.vc.ownBlock)∧Hid (t.vc.ownBlock=some g'∨g'=w1.heap.size+1)∧Hid (w4.ownsRow B 266 1 (.slice (some ⟨g',0,none⟩) (t.cs.length+1) cap') (t.cs.length+1) (t.cs++[x])))
    case first=>
     go_region_law (first
      | (refine step_append_lies _ (by rfl) (.tmp 160) (.tmp 167) _ (by rfl) B 266 i0 _ 1 16 Tryz.underlying260 hi0.out hz0.out hz1.out hz2.out rfl (by decide) t.vc t.cs.length t.cs (by rfl) (World.ownsRow.alloc OC.out _) ⟨w5.heap.size,0,none⟩ 1 1 [.iface ta tv] (by rfl) (by rfl) (World.news_of_block (heap_alloc_new w5 _)) (by intro u hu;simp only [List.mem_cons,List.not_mem_nil,or_false] at hu;subst hu;rfl) (by decide) (by unfold maxLen;omega) (by omega) (by simp;omega) (w5.heap.size+1) (by simp) ?_;intro g' cap' w4 hown4 hg4 hat4 hlt4;have q44:=hg4.cell (((Below.refl _ w5).alloc (Nat.le_refl _) (.cells #[.iface ta tv] 266)).cell (p:=⟨M,4,none⟩) hMl5 |>.trans q45) (fun e=>hMc.out e.symm);have f44:=(hg4.frozen_far (a:=⟨M,4,none⟩) (by simp;omega) (fun e=>hMc.out e.symm)).trans ((((Below.refl _ w5).alloc (Nat.le_refl _) (.cells #[.iface ta tv] 266)).frozen (p:=⟨M,4,none⟩) hMl5).trans f45);have hown5:=Hi hown4;have hg5:=Hi hg4;have hat5:=Hi hat4;clear hown4 hg4 hat4)
      | (go_simp;go_at_call 223;refine cS.out.mono ?_;rintro e w5 ⟨t5,k5,rfl,hk5,hf5,B5⟩;obtain ⟨ta,tv,rfl⟩:=hf5.iface;have hf5:=Hi hf5;have P5:=hO2.out.P.since B5;have q45:=P5.c4;have f45:=P5.free 4;have hMl5:=P5.lt;have hMc:=Hi P5.mc;have hBs5:=P5.bB;have OC:=Hi (show OwnT w5 B t.vc t.cs from (P5.lvl t (List.mem_cons_self ..)).c);have P5:=Hi P5;have B5:=Hi B5;go_wp2_with fail))
     all_goals (
      have hfc:Forest w5 (Since F W.drew w5) t.cs n1:=fc.out.up (fun _ h=>.inl h) fun b hb=>B5.out.block b (hO2.out.P.flt b hb)
      have hfc:=Hi hfc;have hB5:=Hi (B5.out.mono (Nat.le_of_lt hO2.out.P.lt));clear q44 f44 q45 f45;go_wp2_with fail;go_meet;exact ⟨g',cap',k5,_,_,w5,w4,rfl,P5,hfc,hf5,hk5,hB5,hg5,hat5,hown5⟩)
    case rest=>
     obtain ⟨g',cap',k,x,F1,w1,w4,rfl,P1,hfc,hfx,hk,hB1,hg5,hat5,hown5⟩:=hcut;have hMc:=P1.out.mc;have e4:w4.heap[M]?=w1.heap[M]?:=(hg5.out.block M (by have:=P1.out.lt;simp;omega) (fun e=>hMc e.symm)).trans (heap_alloc_old w1 _ P1.out.lt)
     obtain ⟨P4,B4⟩:=P1.out.barred hg5.out hat5.out hown5.out hfx.out hk hn hfc.out;have z1:=(World.cell?_of_block (a:=⟨M,1,none⟩) e4).trans P1.out.c1;have z5:=(World.cell?_of_block (a:=⟨M,5,none⟩) e4).trans P1.out.c5;have y1:=(World.frozen?_of_block (a:=⟨M,1,none⟩) e4).trans (P1.out.free 1);have y5:=(World.frozen?_of_block (a:=⟨M,5,none⟩) e4).trans (P1.out.free 5);have hO4:TrOk w _ M B F1 s (a+1) (i+1) vo ls _:=⟨P4.setAt (a+1),hlt,hO2.out.it,hls,by have:=hO.out.wt;rw [sumL_cons] at this ⊢;show t.wt+1+_≤_;omega,(hO2.out.bel.trans (hB1.out.trans B4)).setCell (p:=⟨M,1,none⟩) (Nat.le_refl M) _⟩
     have hO4:=Hi hO4;clear P4 B4 hown5 hg5 hat5 P1 hfc hfx hB1 q4 q5 e4 hMc fc;go_wp2_with fail;go_step3
     (try simp only [Exit.jumps])
     exact ⟨trJ_mk 0 (a+1) (i+1) hO4 (Hi (mk_lab0 (by rw [hR2.out];rfl))),hO4.out.dec hmu.out (.inl (Nat.lt_succ_self a))⟩
  ·refine ⟨_,rfl,?_⟩;clear hih;obtain ⟨hR,hlt,hC⟩:=lab_mid hL.out (by decide) (by decide)
   have hC:s[a].toNat=46:=hC
   have hR:=Hi (show R=if 48≤i then false else mM ((bs s).drop (a+1)) (i+1) ls.length true by
    rw [hR,mM_at hlt,mM_cons,if_neg (by omega),if_neg (by omega),if_neg (by omega),if_neg (by unfold sufU;simp [hC]),if_neg (by omega),if_pos hC])
   have ci:=Hi (t_item q2 f2 (by omega))
   clear hC hL q0 q1 q3 q4 q5 f1
   by_cases h48:48≤i
   ·have hR2:=Hi (hR.out.trans (if_pos h48));rw [show (!decide (48≤i))=false by simpa using h48] at ci
    clear hR h48;go_wp2_with (go_at_call 221;refine ci.out.mono ?_;rintro e w1 ⟨rfl,rfl⟩)
    (try simp only [Exit.jumps])
    go_ret;exact ⟨by rw [hR2.out];rfl,hO.out.bM _ _,⟨_,(hO.out.P.setIt (i+1)).c1⟩,fun h=>by rw [hR2.out] at h;cases h⟩
   ·have hR2:=Hi (hR.out.trans (if_neg h48));rw [show (!decide (48≤i))=true by simpa using h48] at ci
    have hO2:=Hi (hO.out.item h48);clear hR h48 q2 f2;go_upto_region 36 with (go_at_call 221;refine ci.out.mono ?_;rintro e w1 ⟨rfl,rfl⟩);generalize w'.setCell ⟨M,2,none⟩ (.int .i64 ((i:Int)+1))=W at *;clear ci;obtain ⟨i0,hi0,hz0,hz1,hz2⟩:=info_parts tree_info;have hi0:=Hi hi0;have hz0:=Hi hz0;have hz1:=Hi hz1;have hz2:=Hi hz2;have q5:=hO2.out.P.c5;have f5:=hO2.out.P.free 5;have hMl:=hO2.out.P.lt;have hMp:=Hi hO2.out.P.mp;have hBs:=hO2.out.P.bB;have hO3:OwnT W B t.vp t.ps:=(hO2.out.P.lvl t (List.mem_cons_self ..)).p;have hO3:=Hi hO3;have hpl:=hO.out.psl (by omega)
    go_upto_region 37 with (at_builtin;refine wpList_append_lies _ rfl (.tmp 191) (.tmp 194) _ rfl B 266 i0 _ 1 16 Tryz.underlying260 hi0.out hz0.out hz1.out hz2.out rfl (by decide) t.vp t.ps.length t.ps rfl (World.ownsRow.alloc hO3.out _) ⟨W.heap.size,0,none⟩ 1 1 [.iface 285 (.agg #[.string ⟨#[46]⟩,.bool false,.bool false,.bool false])] rfl rfl (World.news_of_block (heap_alloc_new W _)) (by intro u hu;simp only [List.mem_cons,List.not_mem_nil,or_false] at hu;subst hu;rfl) (by decide) (by unfold maxLen;omega) (by omega) (by simp;omega) (W.heap.size+1) (by simp) ?_;intro g' cap' w4 hown4 hg4 hat4 hlt4;have q54:=hg4.cell (((Below.refl _ W).alloc (Nat.le_refl _) (.cells #[.iface 285 (.agg #[.string ⟨#[46]⟩,.bool false,.bool false,.bool false])] 266)).cell (p:=⟨M,5,none⟩) hMl |>.trans q5) (fun e=>hMp.out e.symm);have f54:=(hg4.frozen_far (a:=⟨M,5,none⟩) (by simp;omega) (fun e=>hMp.out e.symm)).trans ((((Below.refl _ W).alloc (Nat.le_refl _) (.cells #[.iface 285 (.agg #[.string ⟨#[46]⟩,.bool false,.bool false,.bool false])] 266)).frozen (p:=⟨M,5,none⟩) hMl).trans f5);have hown5:=Hi hown4;have hg5:=Hi hg4;have hat5:=Hi hat4;clear hown4 hg4 hat4)
    obtain ⟨P4,B4⟩:=hO2.out.P.pushed hg5.out hat5.out hown5.out (.leaf ⟨#[46]⟩ false false false [] 0 .nil);have hO4:TrOk w _ M B F s (a+1) (i+1) vo ls _:=⟨P4.setAt (a+1),hlt,hO2.out.it,hls,by have:=hO.out.wt;rw [sumL_cons] at this ⊢;show t.wt+3+_≤_;omega,(hO2.out.bel.trans B4).setCell (p:=⟨M,1,none⟩) (Nat.le_refl M) _⟩
    have q1':=P4.c1;have f1':=P4.free 1;have hO4:=Hi hO4;clear P4 B4 hown5 hg5 hat5 hO3 q54 f54 q5 f5;generalize w4.setCell ⟨M,5,none⟩ (.slice (some ⟨g',0,none⟩) (t.ps.length+1) cap')=W2 at *;go_wp2_with fail;go_step3
    (try simp only [Exit.jumps])
    exact ⟨trJ_mk 0 (a+1) (i+1) hO4 (Hi (mk_lab0 (by rw [hR2.out,part_ne];try simp))),hO4.out.dec hmu.out (.inl (Nat.lt_succ_self a))⟩
  ·refine ⟨_,rfl,?_⟩;obtain ⟨hR,hlt,hC⟩:=lab_mid hL.out (by decide) (by decide)
   have hC:s[a].toNat=33:=hC
   have hR:=Hi (show R=if 48≤i then false else if letL ((bs s).drop (a+1))=false then false else match nameEnd ((bs s).drop (a+1)) with
     | none=>false
     | some q=>mM q (i+1) ls.length true by
    rw [hR,mM_at hlt,mM_cons,if_neg (by omega),if_neg (by omega),if_neg (by omega),if_neg (by unfold sufU;simp [hC]),if_neg (by omega),if_neg (by omega),if_pos hC];rfl)
   have ci:=Hi (t_item q2 f2 (by omega))
   have hih:=Hi hih;clear hC hL q0 q3 q4 q5
   by_cases h48:48≤i
   ·have hR2:=Hi (hR.out.trans (if_pos h48));rw [show (!decide (48≤i))=false by simpa using h48] at ci
    clear hR h48;go_wp2_with (go_at_call 221;refine ci.out.mono ?_;rintro e w1 ⟨rfl,rfl⟩)
    (try simp only [Exit.jumps])
    go_ret;exact ⟨by rw [hR2.out];rfl,hO.out.bM _ _,⟨_,(hO.out.P.setIt (i+1)).c1⟩,fun h=>by rw [hR2.out] at h;cases h⟩
   ·have hR2:=Hi (hR.out.trans (if_neg h48));rw [show (!decide (48≤i))=true by simpa using h48] at ci
    have hO2:=Hi (hO.out.item h48);have hO3:=Hi (hO2.out.step hlt);have cl:=Hi (t_letter hO3.out.P.c0 (a+1) (by omega))
    have z1:=hO3.out.P.c1;clear hR h48
    cases hl:letL ((bs s).drop (a+1)) with
    | false=>
      have hR3:=Hi (hR2.out.trans (if_pos hl));rw [hl] at cl;clear hR2 hl z1;go_wp2_with (first|(go_at_call 220;refine (cl.out).mono ?_;rintro e w1 ⟨rfl,rfl⟩)|(go_at_call 221;refine (ci.out).mono ?_;rintro e w1 ⟨rfl,rfl⟩))
      (try simp only [Exit.jumps])
      go_ret;exact ⟨by rw [hR3.out];rfl,hO3.out.bel,⟨_,hO3.out.P.c1⟩,fun h=>by rw [hR3.out] at h;cases h⟩
    | true=>
      have hR3:=Hi (hR2.out.trans (if_neg (by rw [hl];decide)))
      have hlH:=Hi hl;rw [hl] at cl;clear hR2 hl z1;go_upto_region 43 with (first|(go_at_call 220;refine (cl.out).mono ?_;rintro e w1 ⟨rfl,rfl⟩)|(go_at_call 221;refine (ci.out).mono ?_;rintro e w1 ⟨rfl,rfl⟩))
      repeat go_step
      rename_i K1 hk;refine wp_label ?_;refine hk _ _ ?_;refine wp_of_pass (hih.out 7 _ _ ?_ ?_) rfl
      ·exact trJ_mk 7 (a+1) (i+1) hO3 (Hi (mk_lab7 hlH.out hR3.out))
      ·exact hO3.out.dec hmu.out (.inl (Nat.lt_succ_self a))
  ·refine ⟨_,rfl,?_⟩;clear hih;obtain ⟨⟨d,hd⟩,hlet,hR⟩:=lab7 hL.out;have nc:=Hi (t_name hO.out.P d has (by omega) (hO.out.psl (by omega)))
   clear hL q0 q1 q2 q3 q4 q5 f1 f2
   cases hn:nameEnd ((bs s).drop a) with
   | none=>
     have hR2:=Hi (show R=false by rw [hR,hn])
     have hn:=Hi hn;clear hR hlet;go_wp2_with (go_at_call 224;refine nc.out.mono ?_;rintro e w1 hx;unfold NmPost at hx;rw [hn.out] at hx;obtain ⟨-,rfl,rfl⟩:=hx)
     (try simp only [Exit.jumps])
     go_ret;exact ⟨by rw [hR2.out];rfl,hO.out.bel,⟨_,hO.out.P.c1⟩,fun h=>by rw [hR2.out] at h;cases h⟩
   | some q=>
     have hR2:=Hi (show R=mM q i ls.length true by rw [hR,hn])
     have hql:=Hi (nameEnd_lt hlet hn);have hn:=Hi hn;clear hR hlet;go_wp2_with (go_at_call 224;refine nc.out.mono ?_;rintro e w1 hx;unfold NmPost at hx;rw [hn.out] at hx;obtain ⟨hb,rfl,a2,v2,x2,ha2,has2,hdr,P2⟩:=hx;have hb:=Hi hb;have P2:=Hi P2;have hdr:=Hi hdr);go_step3
     (try simp only [Exit.jumps])
     have hlt2:a<a2:=by
      have h1:=hql.out;rw [← hdr.out,List.length_drop,List.length_drop,bs_length] at h1;omega
     have hO4:TrOk w w1 M B F s a2 i vo ls (t.part v2 x2 (a2-a+2)):=⟨P2.out,has2,his,hls,by have:=hO.out.wt;rw [sumL_cons] at this ⊢;show t.wt+(a2-a+2)+_≤_;omega,hO.out.bel.trans hb.out⟩
     exact ⟨trJ_mk 0 a2 i (Hi hO4) (Hi (mk_lab0 (by rw [hR2.out,hdr.out,part_ne]))),hO4.dec hmu.out (.inl hlt2)⟩
 ·intro hp;refine wp_seq ?_
  repeat go_step
  rename_i K1 hk;obtain ⟨y,hy,hw⟩:=hp 0 _ w (trJ_start hOk hLb)
  injection hy with hy
  injection hy with _ hy
  subst hy;refine wp_label ?_;refine hk _ _ ?_;exact hw
end Go.Proofs.YtjokciofeicdkaaGreatDoor
