/- Part of the proof of WholeStep. -/
import Derived.Test.YtllbdpdnpaocnaaGreatDoorZBH
namespace Go.Proofs.YtllbdpdnpaocnaaGreatDoor
set_option linter.unusedSimpArgs false
set_option linter.unusedVariables false
set_option linter.constructorNameAsVariable false
open Go.RowKit
structure Tr where
 g:Nat
 bl:Nat
 cl:Nat
 bn:Nat→Nat
 cn:Nat→Nat
def lB (T:Tr) (h m l:Nat):Value:=if l < m then .slice (some ⟨T.bn l,0,none⟩) (2 ^ (h - l)) (T.cn l) else .slice none 0 0
def dK (T:Tr) (n h m:Nat):List Value:=.slice (some ⟨T.bl,0,none⟩) n T.cl :: (List.range 13).map (lB T h m)
theorem iv (T:Tr) (n h m l:Nat) (hl:l < 13):(dK T n h m)[1+l]?=some (lB T h m l):=by rw [dK,Nat.add_comm,List.getElem?_cons_succ,List.getElem?_map,List.getElem?_range hl];rfl
def cV (w:World) (b c:Nat) (ls:List (List Int)):Prop:=∃ys,Bk w b 45 ys∧ys.length=c*8∧ys.take (ls.length*8)=aJ ls
theorem cV.to {w w' : World} {b c:Nat} {ls:List (List Int)} (h:cV w b c ls) (hk:w'.heap[b]?=w.heap[b]?):cV w' b c ls:=by obtain ⟨ys,h1,h2⟩:=h;exact ⟨ys,hk.trans h1,h2⟩
theorem cV.lt {w:World} {b c:Nat} {ls:List (List Int)} (h:cV w b c ls):b < w.heap.size:=by obtain ⟨ys,h1,h2⟩:=h;exact Bk.lt h1
theorem cV.ne {w:World} {b c g:Nat} {ls:List (List Int)} {t:TypeId} {xs:List Value} (h:cV w b c ls) (hg:Bk w g t xs) (ht:t≠45):g≠b:=by obtain ⟨ys,h1,h2⟩:=h;exact Bk.ne_ hg h1 ht
theorem cV.frozen {w:World} {b c:Nat} {ls:List (List Int)} (h:cV w b c ls) (i:Nat):w.frozen? ⟨b,i,none⟩=false:=by obtain ⟨ys,h1,h2⟩:=h;exact Bk.frozen h1 i
theorem cV.sl {w:World} {b c:Nat} {ls:List (List Int)} (h:cV w b c ls) (ho:cY ls) (hn:ls.length≤9223372036854775807):Sl w w.heap.size 8 (some ⟨b,0,none⟩) ls.length (aJ ls):=by
 obtain ⟨ys,h1,h2,h3⟩:=h;refine h1.sl (eW ho) hn fun j u hu=>?_;rw [←h3,List.getElem?_take] at hu;split at hu
 ·exact hu
 ·cases hu
theorem cV.all {w:World} {b:Nat} {ls:List (List Int)} (ho:cY ls) (h:Bk w b 45 (aJ ls)):cV w b ls.length ls:=
 ⟨_,h,eW ho,List.take_of_length_le (by rw [eW ho];exact Nat.le_refl _)⟩
def vg (w:World) (T:Tr) (ls:List (List Int)):Prop:=cV w T.bl T.cl ls
structure aY (w:World) (lo hi:Nat) (T:Tr) (h m:Nat) (ls:List (List Int)) (ns:Nat→List (List Int)):Prop where
 row:Bk w T.g 147 (dK T ls.length h m)
 lok:cY ls
 lv:vg w T ls
 lc:1≤ls.length∧ls.length≤T.cl∧T.cl≤9223372036854775807
 lh:ls.length≤2 ^ h
 nv:∀l,l < m→cV w (T.bn l) (T.cn l) (ns l)∧(ns l).length=2 ^ (h - l)∧cY (ns l)
 hm:m≤h+1∧h≤12
 apl:∀l,l < m→T.bn l≠T.bl
 apn:∀l l',l < m→l' < m→T.bn l=T.bn l'→l=l'
 blo:lo≤T.g∧lo≤T.bl∧∀l,l < m→lo≤T.bn l
 bhi:T.g < hi∧T.bl < hi∧∀l,l < m→T.bn l < hi
 hih:hi≤w.heap.size
section
variable {w w' : World} {lo hi h m:Nat} {T:Tr} {ls:List (List Int)} {ns:Nat→List (List Int)}
theorem aY.keep (t:aY w lo hi T h m ls ns) (hs:w.heap.size≤w'.heap.size) (hk:∀b,lo≤b→b < hi→w'.heap[b]?=w.heap[b]?):aY w' lo hi T h m ls ns where
 row:=(hk _ t.blo.1 t.bhi.1).trans t.row
 lok:=t.lok
 lv:=cV.to t.lv (hk _ t.blo.2.1 t.bhi.2.1)
 lc:=t.lc
 lh:=t.lh
 nv:=fun l hl=>⟨(t.nv l hl).1.to (hk _ (t.blo.2.2 l hl) (t.bhi.2.2 l hl)),(t.nv l hl).2⟩
 hm:=t.hm
 apl:=t.apl
 apn:=t.apn
 blo:=t.blo
 bhi:=t.bhi
 hih:=Nat.le_trans t.hih hs
theorem aY.later (t:aY w lo hi T h m ls ns) (hb:Below w.heap.size w w'):aY w' lo hi T h m ls ns:=
 t.keep hb.size fun b _ hbh=>hb.block b (Nat.lt_of_lt_of_le hbh t.hih)
theorem aY.drewN (t:aY w lo hi T h m ls ns) (q:Nat):aY (w.drewN q) lo hi T h m ls ns:=t.keep (Nat.le_refl _) fun _ _ _=>rfl
theorem aY.lcell (t:aY w lo hi T h m ls ns):w.cell? ⟨T.g,0,none⟩=some (.slice (some ⟨T.bl,0,none⟩) ls.length T.cl):=by rw [t.row.cell];rfl
theorem aY.ncell (t:aY w lo hi T h m ls ns) {l:Nat} (hl:l < m):w.cell? ⟨T.g,1+l,none⟩=some (.slice (some ⟨T.bn l,0,none⟩) (2 ^ (h - l)) (T.cn l)):=by have:=t.hm;rw [t.row.cell,iv _ _ _ _ _ (by omega),lB,if_pos hl]
theorem aY.sl (t:aY w lo hi T h m ls ns):Sl w w.heap.size 8 (some ⟨T.bl,0,none⟩) ls.length (aJ ls):=cV.sl t.lv t.lok (by have:=t.lc;omega)
theorem aY.pow (t:aY w lo hi T h m ls ns) (l:Nat):2 ^ (h - l)≤4096:=by have:=t.hm;have h1:2 ^ (h - l)≤2 ^ 12:=Nat.pow_le_pow_right (by omega) (by omega);omega
theorem aY.nsl (t:aY w lo hi T h m ls ns) {l:Nat} (hl:l < m):Sl w w.heap.size 8 (some ⟨T.bn l,0,none⟩) (2 ^ (h - l)) (aJ (ns l)):=by obtain ⟨h1,h2,h3⟩:=t.nv l hl;have:=h1.sl h3 (by rw [h2];have:=t.pow l;omega);rw [h2] at this;exact this
theorem aY.n12 (t:aY w lo hi T h m ls ns):ls.length≤4096:=by have:=t.pow 0;have h2:=t.lh;rw [Nat.sub_zero] at this;omega
end
set_option maxRecDepth 20000 in
theorem vh (w:World) (A:Option Addr) (n c:Nat) (ls:List (List Int)) (ho:cY ls) (hs:Sl w w.heap.size 8 A n (aJ ls)) (hn4:n≤1048576):Calls Tryz.prog 130 #[.slice A n c] w fun e w'=>(∃v,e=.returned v∧w'.ownsRow w.heap.size 45 8 v n (aJ ls))∧Below w.heap.size w w':=by
 have hn:=hs.le;have hnil:∀(w:World) (a:Option Addr) (n c n' c' : Nat),(binOp .eql 52 (.slice a n c) (.slice none n' c')).run Tryz.prog w=.ok (.bool a.isNone) w:=fun w a n c n' c'=>Lib.run_eql_slice_nil w _ _ a n c n' c' Tryz.underlying52;cases A with
 | none=>
  have hn0:n=0:=by
   rcases Nat.eq_zero_or_pos n with h | h
   ·exact h
   ·obtain ⟨_,e,_⟩:=hs.mem h;cases e
  subst hn0;have hl:=hs.dgs ho;have HL:=aa (List.eq_nil_of_length_eq_zero hl);clear hs ho hl;go_enter Tryz.func130,Tryz.ntmps130;go_wp2_with fail
  go_ret;rw [HL.out];exact ⟨⟨_,rfl,World.ownsRow_nil _ _ _ _⟩,Below.refl _ _⟩
 | some ad=>
  obtain ⟨d0,hdi,hd0,hd1,hd2⟩:=info_parts Tryz.infoDg;have HS:=aa hs;have H1:Hid (∀u∈aJ ls,u.oneCell'=true):=by intro u hu;simp only [aJ,List.mem_flatMap,List.mem_map] at hu;obtain ⟨_,_,_,_,rfl⟩:=hu;rfl
  clear hs ho;go_enter Tryz.func130,Tryz.ntmps130;go_wp2_with (at_builtin;refine bm _ rfl (.tmp 5) (.tmp 6) 52 rfl w.heap.size 45 d0 (.agg (dgA ap)) 8 8 Tryz.underlying52 hdi hd0 hd1 hd2 rfl (by decide) _ _ _ rfl (mR w 45 8 w.heap.size (Nat.le_refl _)) _ _ n c (aJ ls) rfl (HS.alloc (Nat.le_refl _) _) H1.out (by unfold maxLen;omega) (by omega) (by simp) ?_;intro v1 w3 hown1 hg1 hat1)
  rw [Nat.zero_add,List.nil_append] at hown1;have hb3:=aB (ai w (.cells #[] 45)) (mR w 45 8 w.heap.size (Nat.le_refl _)) hg1 (Nat.le_refl _) (by simp);have HO:=aa hown1;have HB:=aa hb3;clear hown1 hg1 hat1 hb3;go_wp2_with fail
  go_ret;exact ⟨⟨_,rfl,HO.out⟩,HB.out⟩
theorem vi (w:World) (lo hi:Nat) (T:Tr) (h m:Nat) (ls:List (List Int)) (ns:Nat→List (List Int)) (t:aY w lo hi T h m ls ns):Calls Tryz.prog 152 #[.pointer (some ⟨T.g,0,none⟩)] w fun e w'=>e=.returned (.int .i64 (ls.length:Int))∧w=w':=by
 have hc:=t.lcell;obtain ⟨n,hn⟩:∃n,ls.length=n:=⟨_,rfl⟩;rw [hn] at hc ⊢;clear t hn;go_enter Tryz.func152,Tryz.ntmps152;go_wp2_with fail
 go_ret;exact ⟨rfl,rfl⟩
def nR (n:Nat) (i:Int):Bool:=decide (0≤i∧i < n)
theorem xO (w:World) (lo hi:Nat) (T:Tr) (h m:Nat) (ls:List (List Int)) (ns:Nat→List (List Int)) (t:aY w lo hi T h m ls ns) (i:Int):Calls Tryz.prog 81 #[.pointer (some ⟨T.g,0,none⟩),.int .i64 i] w fun e w'=>e=.returned (.bool (nR ls.length i))∧w=w':=by
 have HL:=aa (vi w lo hi T h m ls ns t);obtain ⟨n,hn⟩:∃n,ls.length=n:=⟨_,rfl⟩;rw [hn] at HL ⊢;clear t hn;by_cases h0:i < 0
 ·have HB:=aa (show nR n i=false by rw [nR];simp;omega);have h0' : decide (0≤i)=false:=by simp;omega
  go_enter Tryz.func81,Tryz.ntmps81;go_wp2_with (go_at_call 152;refine HL.mono ?_;rintro e w2 ⟨rfl,rfl⟩)
  go_ret;exact ⟨by rw [HB.out];rfl,rfl⟩
 ·have h0' : 0≤i:=by omega
  have HB:=aa (show nR n i=decide (i < n) by rw [nR];simp [h0']);go_enter Tryz.func81,Tryz.ntmps81;go_wp2_with (go_at_call 152;refine HL.mono ?_;rintro e w2 ⟨rfl,rfl⟩)
  go_ret;exact ⟨by rw [HB.out];rfl,rfl⟩
theorem nS (w:World) (lo hi:Nat) (T:Tr) (h m:Nat) (ls:List (List Int)) (ns:Nat→List (List Int)) (t:aY w lo hi T h m ls ns):Calls Tryz.prog 72 #[.pointer (some ⟨T.g,0,none⟩)] w fun e w'=>e=.returned (.int .i64 (bB ls.length:Int))∧w=w':=by
 have hc:=t.lcell;have hn4:=t.n12;have h1:=t.lc.1;have HV:=aa (show dn ls.length=bB ls.length by rw [dn,if_neg (by omega)]);obtain ⟨n,hn⟩:∃n,ls.length=n:=⟨_,rfl⟩;rw [hn] at hc HV ⊢;clear t hn;go_enter Tryz.func72,Tryz.ntmps72;go_wp2_with (go_at_call 43;refine (gg n _).mono ?_;rintro e w2 ⟨rfl,rfl⟩)
 go_ret;exact ⟨by rw [HV.out];rfl,rfl⟩
theorem gj {α:Type} (l1 l2:List α) (q j:Nat) (v:α) (hq:q=l1.length+j):(l1 ++ l2).set q v=l1 ++ l2.set j v:=by subst hq;simp [List.set_append]
theorem fl (d:List Int) (ls:List (List Int)):aJ (d :: ls)=d.map (Value.int .u8) ++ aJ ls:=by simp [aJ]
theorem qN {ls:List (List Int)} (h:cY ls) {k:Nat} (hk:k < ls.length) (o0 o1 o2 o3 o4 o5 o6 o7:Int):(((((((((aJ ls).set (k*8) (.int .u8 o0)).set (k*8+1) (.int .u8 o1)).set (k*8+2) (.int .u8 o2)).set (k*8+3) (.int .u8 o3)).set (k*8+4) (.int .u8 o4)).set (k*8+5) (.int .u8 o5)).set (k*8+6) (.int .u8 o6)).set (k*8+7) (.int .u8 o7))=aJ (ls.set k [o0,o1,o2,o3,o4,o5,o6,o7]):=by
 induction ls generalizing k with
 | nil=>simp at hk
 | cons x ls ih=>
  have hx:=(h x (by simp)).len;cases k with
  | zero=>obtain ⟨x0,x1,x2,x3,x4,x5,x6,x7,rfl⟩:=dQ x hx;rw [fl,List.set_cons_zero,fl];rfl
  | succ k=>
   have hl:(x.map (Value.int .u8)).length=8:=by rw [List.length_map,hx]
   rw [fl,List.set_cons_succ,fl,←ih (fun y hy=>h y (by simp [hy])) (by simpa using hk)];rw [gj _ _ _ (k*8) _ (by rw [hl];omega),gj _ _ _ (k*8+1) _ (by rw [hl];omega),gj _ _ _ (k*8+2) _ (by rw [hl];omega),gj _ _ _ (k*8+3) _ (by rw [hl];omega),gj _ _ _ (k*8+4) _ (by rw [hl];omega),gj _ _ _ (k*8+5) _ (by rw [hl];omega),gj _ _ _ (k*8+6) _ (by rw [hl];omega),gj _ _ _ (k*8+7) _ (by rw [hl];omega)]
theorem nT {w' : World} {b c:Nat} {ls:List (List Int)} {ys:List Value} (hl:ys.length=c*8) (ht:ys.take (ls.length*8)=aJ ls) (ho:cY ls) {k:Nat} (hk:k < ls.length) (o0 o1 o2 o3 o4 o5 o6 o7:Int) (hb:Bk w' b 45 ((((((((ys.set (k*8) (.int .u8 o0)).set (k*8+1) (.int .u8 o1)).set (k*8+2) (.int .u8 o2)).set (k*8+3) (.int .u8 o3)).set (k*8+4) (.int .u8 o4)).set (k*8+5) (.int .u8 o5)).set (k*8+6) (.int .u8 o6)).set (k*8+7) (.int .u8 o7))):cV w' b c (ls.set k [o0,o1,o2,o3,o4,o5,o6,o7]):=by refine ⟨_,hb,by simpa using hl,?_⟩;rw [List.length_set,←qN ho hk,←ht];simp only [List.take_set]
theorem Bk.put8at {w:World} {g:Nat} {t:TypeId} {xs:List Value} (h:Bk w g t xs) (q:Nat) (o0 o1 o2 o3 o4 o5 o6 o7:Int):Bk ((((((((w.setCell ⟨g,q,none⟩ (.int .u8 o0)).setCell ⟨g,q+1,none⟩ (.int .u8 o1)).setCell ⟨g,q+2,none⟩ (.int .u8 o2)).setCell ⟨g,q+3,none⟩ (.int .u8 o3)).setCell ⟨g,q+4,none⟩ (.int .u8 o4)).setCell ⟨g,q+5,none⟩ (.int .u8 o5)).setCell ⟨g,q+6,none⟩ (.int .u8 o6)).setCell ⟨g,q+7,none⟩ (.int .u8 o7)) g t ((((((((xs.set (q) (.int .u8 o0)).set (q+1) (.int .u8 o1)).set (q+2) (.int .u8 o2)).set (q+3) (.int .u8 o3)).set (q+4) (.int .u8 o4)).set (q+5) (.int .u8 o5)).set (q+6) (.int .u8 o6)).set (q+7) (.int .u8 o7)):=
 Bk.set_ (Bk.set_ (Bk.set_ (Bk.set_ (Bk.set_ (Bk.set_ (Bk.set_ (Bk.set_ h _ _) _ _) _ _) _ _) _ _) _ _) _ _) _ _
theorem eq {g:Nat} {w0 w:World} (h:w0.grownBy w (some g)) (q:Nat) (o0 o1 o2 o3 o4 o5 o6 o7:Int):w0.grownBy ((((((((w.setCell ⟨g,q,none⟩ (.int .u8 o0)).setCell ⟨g,q+1,none⟩ (.int .u8 o1)).setCell ⟨g,q+2,none⟩ (.int .u8 o2)).setCell ⟨g,q+3,none⟩ (.int .u8 o3)).setCell ⟨g,q+4,none⟩ (.int .u8 o4)).setCell ⟨g,q+5,none⟩ (.int .u8 o5)).setCell ⟨g,q+6,none⟩ (.int .u8 o6)).setCell ⟨g,q+7,none⟩ (.int .u8 o7)) (some g):=
 bg (bg (bg (bg (bg (bg (bg (bg h _ _) _ _) _ _) _ _) _ _) _ _) _ _) _ _
theorem jw {w w' : World} {b q g:Nat} {cs:List Value} (h:w.rangeAt b q cs) (hg:w.grownBy w' (some g)) (hb:b < w.heap.size) (hne:b≠g):w'.rangeAt b q cs:=fun j v hv=>by
 rw [World.cell?_of_block (a:=⟨b,q+j,none⟩) (hg.block b hb (by intro e;injection e with e;exact hne e))];exact h j v hv
theorem fm {w w' : World} {b q:Nat} {cs:List Value} (h:w.rangeAt b q cs) (hg:Below w.heap.size w w') (hb:b < w.heap.size):w'.rangeAt b q cs:=fun j v hv=>by
 rw [World.cell?_of_block (a:=⟨b,q+j,none⟩) (hg.block b hb)];exact h j v hv
theorem Bj (w:World) (a b:List Int) (ha:aO a) (hb:aO b):Calls Tryz.prog 158 #[.agg (dgA a),.agg (dgA b)] w fun e w'=>∃o0 o1 o2 o3 o4 o5 o6 o7:Int,e=.returned (.agg #[.int .u8 o0,.int .u8 o1,.int .u8 o2,.int .u8 o3,.int .u8 o4,.int .u8 o5,.int .u8 o6,.int .u8 o7])∧Hid (ip a b=[o0,o1,o2,o3,o4,o5,o6,o7])∧Below w.heap.size w w':=by obtain ⟨o0,o1,o2,o3,o4,o5,o6,o7,ho⟩:=dQ (ip a b) (jK _ _).len;refine (nN w a b ha hb).mono ?_;rintro e w' ⟨rfl,hb⟩;exact ⟨o0,o1,o2,o3,o4,o5,o6,o7,by rw [ho];rfl,ho,hb⟩
theorem qO {w w' : World} {g L b bq N C q q' : Nat} {a0 a1 a2 a3 a4 a5 a6 a7 b0 b1 b2 b3 b4 b5 b6 b7:Int} (hc:w.cell? ⟨g,1+L,none⟩=some (.slice (some ⟨bq,0,none⟩) N C)) (hx:w.rangeAt b q ([a0,a1,a2,a3,a4,a5,a6,a7].map (Value.int .u8))) (hy:w.rangeAt b q' ([b0,b1,b2,b3,b4,b5,b6,b7].map (Value.int .u8))) (hb:Below w.heap.size w w') (hg:g < w.heap.size) (hbl:b < w.heap.size):w'.cell? ⟨g,1+L,none⟩=some (.slice (some ⟨bq,0,none⟩) N C)∧w'.cell? ⟨b,q,none⟩=some (.int .u8 a0)∧w'.cell? ⟨b,q+1,none⟩=some (.int .u8 a1)∧w'.cell? ⟨b,q+2,none⟩=some (.int .u8 a2)∧w'.cell? ⟨b,q+3,none⟩=some (.int .u8 a3)∧w'.cell? ⟨b,q+4,none⟩=some (.int .u8 a4)∧w'.cell? ⟨b,q+5,none⟩=some (.int .u8 a5)∧w'.cell? ⟨b,q+6,none⟩=some (.int .u8 a6)∧w'.cell? ⟨b,q+7,none⟩=some (.int .u8 a7)∧w'.cell? ⟨b,q',none⟩=some (.int .u8 b0)∧w'.cell? ⟨b,q' + 1,none⟩=some (.int .u8 b1)∧w'.cell? ⟨b,q' + 2,none⟩=some (.int .u8 b2)∧w'.cell? ⟨b,q' + 3,none⟩=some (.int .u8 b3)∧w'.cell? ⟨b,q' + 4,none⟩=some (.int .u8 b4)∧w'.cell? ⟨b,q' + 5,none⟩=some (.int .u8 b5)∧w'.cell? ⟨b,q' + 6,none⟩=some (.int .u8 b6)∧w'.cell? ⟨b,q' + 7,none⟩=some (.int .u8 b7):=by obtain ⟨c0,c1,c2,c3,c4,c5,c6,c7⟩:=eX (fm hx hb hbl);exact ⟨(hb.cell (p:=⟨g,1+L,none⟩) hg).trans hc,c0,c1,c2,c3,c4,c5,c6,c7,eX (fm hy hb hbl)⟩
theorem lC {w w' : World} {g L b bq N C q q' g2:Nat} {a0 a1 a2 a3 a4 a5 a6 a7 b0 b1 b2 b3 b4 b5 b6 b7:Int} (hc:w.cell? ⟨g,1+L,none⟩=some (.slice (some ⟨bq,0,none⟩) N C)) (hx:w.rangeAt b q ([a0,a1,a2,a3,a4,a5,a6,a7].map (Value.int .u8))) (hy:w.rangeAt b q' ([b0,b1,b2,b3,b4,b5,b6,b7].map (Value.int .u8))) (hb:w.grownBy w' (some g2)) (hg:g < w.heap.size) (hbl:b < w.heap.size) (hn1:g≠g2) (hn2:b≠g2):w'.cell? ⟨g,1+L,none⟩=some (.slice (some ⟨bq,0,none⟩) N C)∧w'.cell? ⟨b,q,none⟩=some (.int .u8 a0)∧w'.cell? ⟨b,q+1,none⟩=some (.int .u8 a1)∧w'.cell? ⟨b,q+2,none⟩=some (.int .u8 a2)∧w'.cell? ⟨b,q+3,none⟩=some (.int .u8 a3)∧w'.cell? ⟨b,q+4,none⟩=some (.int .u8 a4)∧w'.cell? ⟨b,q+5,none⟩=some (.int .u8 a5)∧w'.cell? ⟨b,q+6,none⟩=some (.int .u8 a6)∧w'.cell? ⟨b,q+7,none⟩=some (.int .u8 a7)∧w'.cell? ⟨b,q',none⟩=some (.int .u8 b0)∧w'.cell? ⟨b,q' + 1,none⟩=some (.int .u8 b1)∧w'.cell? ⟨b,q' + 2,none⟩=some (.int .u8 b2)∧w'.cell? ⟨b,q' + 3,none⟩=some (.int .u8 b3)∧w'.cell? ⟨b,q' + 4,none⟩=some (.int .u8 b4)∧w'.cell? ⟨b,q' + 5,none⟩=some (.int .u8 b5)∧w'.cell? ⟨b,q' + 6,none⟩=some (.int .u8 b6)∧w'.cell? ⟨b,q' + 7,none⟩=some (.int .u8 b7):=by obtain ⟨c0,c1,c2,c3,c4,c5,c6,c7⟩:=eX (jw hx hb hbl hn2);exact ⟨(World.cell?_of_block (a:=⟨g,1+L,none⟩) (hb.block g hg (by intro e;injection e with e;exact hn1 e))).trans hc,c0,c1,c2,c3,c4,c5,c6,c7,eX (jw hy hb hbl hn2)⟩
def mI (ns:Nat→List (List Int)) (l:Nat) (x:List (List Int)):Nat→List (List Int):=fun j=>if j=l then x else ns j
theorem iS (ns:Nat→List (List Int)) (l:Nat) (x:List (List Int)):mI ns l x l=x:=by simp [mI]
theorem jY (ns:Nat→List (List Int)) {l j:Nat} (x:List (List Int)) (h:j≠l):mI ns l x j=ns j:=by simp [mI,h]
theorem vj {ls:List (List Int)} (h:cY ls) (k:Nat) {d:List Int} (hd:aO d):cY (ls.set k d):=fun x hx=>by
 rcases List.mem_or_eq_of_mem_set hx with h' | h'
 ·exact h x h'
 ·exact h'▸hd
theorem aY.level {w w' : World} {lo hi h m:Nat} {T:Tr} {ls:List (List Int)} {ns:Nat→List (List Int)} (t:aY w lo hi T h m ls ns) {l:Nat} (hl:l < m) (hg:w.grownBy w' (some (T.bn l))) (x:List (List Int)) (hx:cY x) (hxl:x.length=2 ^ (h - l)) (hb:cV w' (T.bn l) (T.cn l) x):aY w' lo hi T h m ls (mI ns l x) where
 row:=Bk.grown t.row hg (fun e=>(by
  injection e with e
  exact (t.nv l hl).1.ne t.row (by decide) e))
 lok:=t.lok
 lv:=cV.to t.lv (hg.block _ (cV.lt t.lv) (fun e=>by injection e with e;exact t.apl l hl e.symm))
 lc:=t.lc
 lh:=t.lh
 nv:=fun j hj=>by
  by_cases hjl:j=l
  ·subst hjl;rw [iS];exact ⟨hb,hxl,hx⟩
  ·rw [jY _ _ hjl];exact ⟨(t.nv j hj).1.to (hg.block _ (t.nv j hj).1.lt (fun e=>by injection e with e;exact hjl (t.apn j l hj hl e))),(t.nv j hj).2⟩
 hm:=t.hm
 apl:=t.apl
 apn:=t.apn
 blo:=t.blo
 bhi:=t.bhi
 hih:=Nat.le_trans t.hih hg.size
set_option maxRecDepth 20000 in
set_option maxHeartbeats 1000000 in
theorem tc (w:World) (lo hi:Nat) (T:Tr) (h m:Nat) (ls:List (List Int)) (ns:Nat→List (List Int)) (t:aY w lo hi T h m ls ns) (l k:Nat) (x y:List Int) (hl:l+1 < m) (hk:k < 2 ^ (h - (l+1))) (hx:(ns l)[2*k]?=some x) (hy:(ns l)[2*k+1]?=some y):Calls Tryz.prog 133 #[.pointer (some ⟨T.g,0,none⟩),.int .i64 ((l+1:Nat):Int),.int .i64 (k:Int)] w fun e w'=>e=.returned (.tuple #[])∧aY w' lo hi T h m ls (mI ns (l+1) ((ns (l+1)).set k (ip x y)))∧w.grownBy w' (some (T.bn (l+1))):=by
 have hp1:=t.pow l;have hp2:=t.pow (l+1);have h12:=t.hm;obtain ⟨⟨ys1,hb1,_,_⟩,hn1,ho1⟩:=t.nv l (by omega);obtain ⟨⟨ys,hb2,hyl',hyt⟩,hn2,ho2⟩:=t.nv (l+1) hl;have hxo:=ho1 x (List.mem_of_getElem? hx);have hyo:=ho1 y (List.mem_of_getElem? hy);have hxl:2*k < 2 ^ (h - l):=by rw [←hn1];exact (List.getElem?_eq_some_iff.1 hx).1
 have hyl:2*k+1 < 2 ^ (h - l):=by rw [←hn1];exact (List.getElem?_eq_some_iff.1 hy).1
 obtain ⟨zz,hz⟩:∃zz,(ns (l+1))[k]?=some zz:=⟨(ns (l+1))[k]'(by rw [hn2];exact hk),List.getElem?_eq_getElem _⟩;have hzo:=ho2 zz (List.mem_of_getElem? hz);have hrx:=jO (t.nsl (l:=l) (by omega)) ho1 hx;have hry:=jO (t.nsl (l:=l) (by omega)) ho1 hy;have hrz:=jO (t.nsl (l:=l+1) hl) ho2 hz;rw [Nat.zero_add] at hrx hry hrz;have hc1:=t.ncell (l:=l) (by omega);have hc2:=t.ncell (l:=l+1) hl;have hgl:T.g < w.heap.size:=Bk.lt t.row;have hbl1:T.bn l < w.heap.size:=Bk.lt hb1;have hbl2:T.bn (l+1) < w.heap.size:=Bk.lt hb2;have hne1:T.bn l≠T.bn (l+1):=fun e=>by have:=t.apn l (l+1) (by omega) hl e;omega
 have hne2:T.g≠T.bn (l+1):=Bk.ne_ t.row hb2 (by decide);have HT:=aa t;have hfz:=Bk.frozen hb2;obtain ⟨a0,a1,a2,a3,a4,a5,a6,a7,rfl⟩:=dQ x hxo.len;obtain ⟨b0,b1,b2,b3,b4,b5,b6,b7,rfl⟩:=dQ y hyo.len;obtain ⟨z0,z1,z2,z3,z4,z5,z6,z7,rfl⟩:=dQ zz hzo.len;have HX:=aa hxo;have HY:=aa hyo;have HB2:=aa hb2;have HYL:=aa (show ys.length=T.cn (l+1)*8∧ys.take ((ns (l+1)).length*8)=aJ (ns (l+1)) from ⟨hyl',hyt⟩);have hP:∀W,(∃q,W=w.drewN q)→True:=fun _ _=>trivial;obtain ⟨L,hL⟩:∃L,l+1=L:=⟨_,rfl⟩;obtain ⟨k2,hk2⟩:∃k2,2*k=k2:=⟨_,rfl⟩;obtain ⟨k3,hk3⟩:∃k3,2*k+1=k3:=⟨_,rfl⟩;obtain ⟨N1,hN1⟩:∃N1,2 ^ (h - l)=N1:=⟨_,rfl⟩;obtain ⟨N2,hN2⟩:∃N2,2 ^ (h - L)=N2:=⟨_,rfl⟩;obtain ⟨C1,hC1⟩:∃C1,T.cn l=C1:=⟨_,rfl⟩;rw [hL] at HYL;rw [hC1] at hc1;rw [hL] at hc2 hrz hbl2 hne1 hne2 hfz HB2 hn2 ho2 hl hk hp2;rw [hk2] at hrx hxl;rw [hk3] at hry hyl;rw [hN1] at hc1 hxl hyl hp1;rw [hN2] at hc2 hk hp2;obtain ⟨C2,hC2⟩:∃C2,T.cn L=C2:=⟨_,rfl⟩;rw [hC2] at hc2;obtain ⟨b1',hb1'⟩:∃b1',T.bn l=b1':=⟨_,rfl⟩;obtain ⟨b2',hb2'⟩:∃b2',T.bn L=b2':=⟨_,rfl⟩;obtain ⟨g,hg⟩:∃g,T.g=g:=⟨_,rfl⟩;rw [hb1'] at hrx hry hc1 hbl1 hne1;rw [hb2'] at hrz hc2 hbl2 hne1 hne2 hfz HB2;rw [hg] at hc1 hc2 hgl hne2;have HRX:=aa hrx;have HRY:=aa hry;have HRZ:=aa hrz;have HNS:Hid (cY (ns L)∧(ns L).length=2 ^ (h - L)∧L < m∧(ns L).length=N2):=⟨ho2,hn2,hl,by rw [hn2,hN2]⟩;have e1:((l+1:Nat):Int)=(L:Int):=by omega
 have e2:(L:Int) - 1=(l:Int):=by omega
 have e3:2*(k:Int)=(k2:Int):=by omega
 have e4:(k2:Int)+1=(k3:Int):=by omega
 have i1:(0:Int)≤(l:Int):=by omega
 have i2:(l:Int) < 13:=by omega
 have i3:(0:Int)≤(L:Int):=by omega
 have i4:(L:Int) < 13:=by omega
 have i5:(0:Int)≤(k2:Int):=by omega
 have i6:(k2:Int) < N1:=by omega
 have i7:(0:Int)≤(k3:Int):=by omega
 have i8:(k3:Int) < N1:=by omega
 have i9:(0:Int)≤(k:Int):=by omega
 have i10:(k:Int) < N2:=by omega
 have w1:IntKind.i64.wrap ((L:Int) - 1)=l:=by rw [e2];exact IntWalk.i64_in _ (by omega)
 have w2:IntKind.i64.wrap (2*(k:Int))=k2:=by rw [e3];exact IntWalk.i64_in _ (by omega)
 have w3:IntKind.i64.wrap ((k2:Int)+1)=k3:=by rw [e4];exact IntWalk.i64_in _ (by omega)
 have w4:IntKind.i64.wrap (k2:Int)=k2:=IntWalk.i64_in _ (by omega);have w5:IntKind.i64.wrap (k3:Int)=k3:=IntWalk.i64_in _ (by omega);have HL:=aa hL;have HB1':=aa hb1';have HB2':=aa hb2';have HGG:=aa hg;have HC2:=aa hc2;have hS:w.cell? ⟨g,1+L,none⟩=some (.slice (some ⟨b2',0,none⟩) N2 C2)∧w.cell? ⟨b1',k2*8,none⟩=some (.int .u8 a0)∧w.cell? ⟨b1',k2*8+1,none⟩=some (.int .u8 a1)∧w.cell? ⟨b1',k2*8+2,none⟩=some (.int .u8 a2)∧w.cell? ⟨b1',k2*8+3,none⟩=some (.int .u8 a3)∧w.cell? ⟨b1',k2*8+4,none⟩=some (.int .u8 a4)∧w.cell? ⟨b1',k2*8+5,none⟩=some (.int .u8 a5)∧w.cell? ⟨b1',k2*8+6,none⟩=some (.int .u8 a6)∧w.cell? ⟨b1',k2*8+7,none⟩=some (.int .u8 a7)∧w.cell? ⟨b1',k3*8,none⟩=some (.int .u8 b0)∧w.cell? ⟨b1',k3*8+1,none⟩=some (.int .u8 b1)∧w.cell? ⟨b1',k3*8+2,none⟩=some (.int .u8 b2)∧w.cell? ⟨b1',k3*8+3,none⟩=some (.int .u8 b3)∧w.cell? ⟨b1',k3*8+4,none⟩=some (.int .u8 b4)∧w.cell? ⟨b1',k3*8+5,none⟩=some (.int .u8 b5)∧w.cell? ⟨b1',k3*8+6,none⟩=some (.int .u8 b6)∧w.cell? ⟨b1',k3*8+7,none⟩=some (.int .u8 b7):=by obtain ⟨c0,c1,c2,c3,c4,c5,c6,c7⟩:=eX hrx;exact ⟨hc2,c0,c1,c2,c3,c4,c5,c6,c7,eX hry⟩
 rw [hg,e1];clear t hx hy hz hb1 hb2 hyl' hyt hC1 hC2 ho1 ho2 hn1 hn2 hxo hyo hzo hP hrx hry hrz hc2 hL hk2 hk3 hN1 hN2 hb1' hb2' hg hl e1;go_enter Tryz.func133,Tryz.ntmps133;go_wp2_with fail
 go_region_held3 (fun w'=>w'.cell? ⟨g,1+L,none⟩=some (.slice (some ⟨b2',0,none⟩) N2 C2)∧w'.cell? ⟨b1',k2*8,none⟩=some (.int .u8 a0)∧w'.cell? ⟨b1',k2*8+1,none⟩=some (.int .u8 a1)∧w'.cell? ⟨b1',k2*8+2,none⟩=some (.int .u8 a2)∧w'.cell? ⟨b1',k2*8+3,none⟩=some (.int .u8 a3)∧w'.cell? ⟨b1',k2*8+4,none⟩=some (.int .u8 a4)∧w'.cell? ⟨b1',k2*8+5,none⟩=some (.int .u8 a5)∧w'.cell? ⟨b1',k2*8+6,none⟩=some (.int .u8 a6)∧w'.cell? ⟨b1',k2*8+7,none⟩=some (.int .u8 a7)∧w'.cell? ⟨b1',k3*8,none⟩=some (.int .u8 b0)∧w'.cell? ⟨b1',k3*8+1,none⟩=some (.int .u8 b1)∧w'.cell? ⟨b1',k3*8+2,none⟩=some (.int .u8 b2)∧w'.cell? ⟨b1',k3*8+3,none⟩=some (.int .u8 b3)∧w'.cell? ⟨b1',k3*8+4,none⟩=some (.int .u8 b4)∧w'.cell? ⟨b1',k3*8+5,none⟩=some (.int .u8 b5)∧w'.cell? ⟨b1',k3*8+6,none⟩=some (.int .u8 b6)∧w'.cell? ⟨b1',k3*8+7,none⟩=some (.int .u8 b7)) (first | (with_reducible exact hS3) | (with_reducible exact hS2) | (with_reducible exact hS) | go_keep)
  (first | (go_at_call 158;refine (Bj _ [a0,a1,a2,a3,a4,a5,a6,a7] [b0,b1,b2,b3,b4,b5,b6,b7] HX.out HY.out).mono ?_;rintro e w5 ⟨o0,o1,o2,o3,o4,o5,o6,o7,rfl,ho,hb5⟩;have E5:Hid (Below w.heap.size w w5):=((ac w _ 1).trans hb5);have hS2:=qO HC2.out HRX.out HRY.out E5.out hgl hbl1;have hS3:=lC HC2.out HRX.out HRY.out (eq (dm (bO w b2') E5.out) (k*8) o0 o1 o2 o3 o4 o5 o6 o7) hgl hbl1 hne2 hne1;obtain ⟨zc0,zc1,zc2,zc3,zc4,zc5,zc6,zc7⟩:=eX (fm HRZ.out E5.out hbl2);have zf:=Bk.frozen (HB2.later E5.out);have zl:=Bk.lt (HB2.later E5.out);clear hb5))
 have hgr:=eq (dm (bO w b2') E5.out) (k*8) o0 o1 o2 o3 o4 o5 o6 o7;have hbk:=Bk.put8at (HB2.later E5.out) (k*8) o0 o1 o2 o3 o4 o5 o6 o7;have hbr:=nT HYL.out.1 HYL.out.2 HNS.out.1 (by rw [HNS.out.2.2.2];omega) o0 o1 o2 o3 o4 o5 o6 o7 hbk;rw [←ho.out] at hbr;have HG:=aa hgr;have HBK:=aa hbr;clear hgr hbk hbr hS hS2 hS3 zc0 zc1 zc2 zc3 zc4 zc5 zc6 zc7 zf zl;go_wp2_with fail
 go_end0;have hL:=HL.out;subst hL;refine ⟨rfl,?_,?_⟩
 ·refine HT.level HNS.out.2.2.1 (by rw [HB2'.out];exact HG.out) _ (vj HNS.out.1 _ (jK _ _)) (by rw [List.length_set];exact HNS.out.2.1) (by rw [HB2'.out];exact HBK.out)
 ·rw [HB2'.out];exact HG.out
theorem nU (N:Nat):aJ (List.replicate N ap)=List.replicate (N*8) (Value.int .u8 0):=by
 induction N with
 | zero=>rfl
 | succ N ih=>rw [List.replicate_succ,fl,ih,show ap.map (Value.int .u8)=List.replicate 8 (Value.int .u8 0) from rfl,List.replicate_append_replicate];congr 1;omega
theorem yY (N:Nat):(madeCells #[.int .u8 0,.int .u8 0,.int .u8 0,.int .u8 0,.int .u8 0,.int .u8 0,.int .u8 0,.int .u8 0] (N*8)).toList=aJ (List.replicate N ap):=by
 rw [nU];unfold madeCells;rw [Array.toList_map,Array.toList_range];refine List.ext_getElem (by simp) fun i h1 h2=>?_;simp only [List.getElem_map,List.getElem_replicate,List.getElem_range];have h8:i % 8 < 8:=Nat.mod_lt _ (by omega);show (#[Value.int .u8 0,.int .u8 0,.int .u8 0,.int .u8 0,.int .u8 0,.int .u8 0,.int .u8 0,.int .u8 0]:Array Value)[i % 8]! =_;generalize i % 8=r at h8;match r,h8 with
 | 0,_=>rfl
 | 1,_=>rfl
 | 2,_=>rfl
 | 3,_=>rfl
 | 4,_=>rfl
 | 5,_=>rfl
 | 6,_=>rfl
 | 7,_=>rfl
theorem jZ (N:Nat):cY (List.replicate N ap):=fun d hd=>by rw [List.eq_of_mem_replicate hd];exact fQ
def Tr.more (T:Tr) (m b c:Nat):Tr:={ T with bn:=fun j=>if j=m then b else T.bn j,cn:=fun j=>if j=m then c else T.cn j }
theorem gN (T:Tr) (m b c:Nat):(T.more m b c).bn m=b:=by simp [Tr.more]
theorem eK (T:Tr) {m j:Nat} (b c:Nat) (h:j≠m):(T.more m b c).bn j=T.bn j:=by simp [Tr.more,h]
theorem pp (T:Tr) (m b c:Nat):(T.more m b c).cn m=c:=by simp [Tr.more]
theorem m5 (T:Tr) {m j:Nat} (b c:Nat) (h:j≠m):(T.more m b c).cn j=T.cn j:=by simp [Tr.more,h]
theorem td (T:Tr) (n h m b c:Nat) (hm:m < 13):(dK T n h m).set (1+m) (.slice (some ⟨b,0,none⟩) (2 ^ (h - m)) c)=dK (T.more m b c) n h (m+1):=by
 rw [dK,Nat.add_comm 1 m,List.set_cons_succ,dK];congr 1;refine List.ext_getElem (by simp) fun i h1 h2=>?_;simp only [List.length_set,List.length_map,List.length_range] at h1;rw [List.getElem_set];simp only [List.getElem_map,List.getElem_range];by_cases hi:m=i
 ·subst hi;rw [if_pos rfl,lB,if_pos (by omega),gN,pp]
 ·rw [if_neg hi,lB,lB];by_cases hlt:i < m
  ·rw [if_pos hlt,if_pos (by omega),eK _ _ _ (by omega),m5 _ _ _ (by omega)]
  ·rw [if_neg hlt,if_neg (by omega)]
theorem aY.grow {w w' : World} {lo hi h m:Nat} {T:Tr} {ls:List (List Int)} {ns:Nat→List (List Int)} (t:aY w lo hi T h m ls ns) (hm:m≤h) (b c:Nat) (hbh:hi≤b) (x:List (List Int)) (hx:cY x) (hxl:x.length=2 ^ (h - m)) (hrow:Bk w' T.g 147 ((dK T ls.length h m).set (1+m) (.slice (some ⟨b,0,none⟩) (2 ^ (h - m)) c))) (hb:cV w' b c x) (hk:∀j,j < w.heap.size→j≠T.g→w'.heap[j]?=w.heap[j]?):aY w' lo (b+1) (T.more m b c) h (m+1) ls (mI ns m x) where
 row:=by have:=t.hm;rw [td _ _ _ _ _ _ (by omega)] at hrow;exact hrow
 lok:=t.lok
 lv:=cV.to t.lv (hk _ (cV.lt t.lv) (cV.ne t.lv t.row (by decide)).symm)
 lc:=t.lc
 lh:=t.lh
 nv:=fun j hj=>by
  by_cases hjm:j=m
  ·subst hjm;rw [iS,gN,pp];exact ⟨hb,hxl,hx⟩
  ·rw [jY _ _ hjm,eK _ _ _ hjm,m5 _ _ _ hjm];have h1:=(t.nv j (by omega)).1;exact ⟨h1.to (hk _ h1.lt (h1.ne t.row (by decide)).symm),(t.nv j (by omega)).2⟩
 hm:=⟨by omega,t.hm.2⟩
 apl:=fun j hj=>by
  have h0:=t.bhi.2.1;by_cases hjm:j=m
  ·subst hjm;rw [gN];show b≠T.bl;omega
  ·rw [eK _ _ _ hjm];exact t.apl j (by omega)
 apn:=fun j j' hj hj' he=>by
  by_cases hjm:j=m <;> by_cases hjm' : j'=m
  ·omega
  ·subst hjm;rw [gN,eK _ _ _ hjm'] at he;have:=t.bhi.2.2 j' (by omega);omega
  ·subst hjm';rw [gN,eK _ _ _ hjm] at he;have:=t.bhi.2.2 j (by omega);omega
  ·rw [eK _ _ _ hjm,eK _ _ _ hjm'] at he;exact t.apn j j' (by omega) (by omega) he
 blo:=⟨t.blo.1,t.blo.2.1,fun j hj=>by
  have h0:=t.blo.1;have h1:=t.bhi.1;by_cases hjm:j=m
  ·subst hjm;rw [gN];omega
  ·rw [eK _ _ _ hjm];exact t.blo.2.2 j (by omega)⟩
 bhi:=⟨by have:=t.bhi.1;show T.g < _;omega,by have:=t.bhi.2.1;show T.bl < _;omega,fun j hj=>by
  by_cases hjm:j=m
  ·subst hjm;rw [gN];omega
  ·rw [eK _ _ _ hjm];have:=t.bhi.2.2 j (by omega);omega⟩
 hih:=hb.lt
def eh (ls:List (List Int)) (h l:Nat):List (List Int):=(List.range (2 ^ (h - l))).map (cQ ls l)
theorem lD (ls:List (List Int)) (h l:Nat):(eh ls h l).length=2 ^ (h - l):=by simp [eh]
theorem fU (ls:List (List Int)) (h l k:Nat) (hk:k < 2 ^ (h - l)):(eh ls h l)[k]?=some (cQ ls l k):=by rw [eh,List.getElem?_map,List.getElem?_range hk];rfl
def fB (ls:List (List Int)) (h l k:Nat):List (List Int):=(eh ls h l).take k ++ List.replicate (2 ^ (h - l) - k) ap
theorem lE (ls:List (List Int)) (h l:Nat):fB ls h l 0=List.replicate (2 ^ (h - l)) ap:=by simp [fB]
theorem m6 (ls:List (List Int)) (h l:Nat):fB ls h l (2 ^ (h - l))=eh ls h l:=by rw [fB,List.take_of_length_le (by rw [lD];exact Nat.le_refl _)];simp
theorem m7 (ls:List (List Int)) (h l k:Nat) (hk:k < 2 ^ (h - l)):(fB ls h l k).set k (cQ ls l k)=fB ls h l (k+1):=by
 have hl:((eh ls h l).take k).length=k:=by rw [List.length_take,lD];omega
 have e3:2 ^ (h - l) - k=(2 ^ (h - l) - (k+1))+1:=by omega
 rw [fB,List.set_append,if_neg (by rw [hl];omega),hl,Nat.sub_self,e3,List.replicate_succ,List.set_cons_zero,fB,cF (fU ls h l k hk),List.append_assoc];rfl
end Go.Proofs.YtllbdpdnpaocnaaGreatDoor
