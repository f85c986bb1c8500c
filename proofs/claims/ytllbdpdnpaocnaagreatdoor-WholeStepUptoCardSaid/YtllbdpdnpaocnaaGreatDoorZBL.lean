/- Part of the proof of WholeStep. -/
import Derived.Test.YtllbdpdnpaocnaaGreatDoorZBK
import Derived.Deep.CutBlock
namespace Go.Proofs.YtllbdpdnpaocnaaGreatDoor
set_option linter.unusedSimpArgs false
set_option linter.unusedVariables false
set_option linter.constructorNameAsVariable false
open Go.RowKit Go.Maps
structure WdT where
 a:Int
 v:Int
 A:Option Addr
 N:Nat
 C:Nat
 p:List (List Int)
def wdC (x:WdT):List Value:=[.int .i64 x.a,.int .i32 x.v,.slice x.A x.N x.C]
theorem fg (x:WdT):(Tryz.prog.info? 101).map (·.size)=some (wdC x).length:=(show (Tryz.prog.info? 101).map (·.size)=some 3 by kernel_rfl)
theorem mA (x:WdT):∀v∈wdC x,v.oneCell'=true:=by intro v hv;simp only [wdC,List.mem_cons,List.not_mem_nil,or_false] at hv;rcases hv with rfl | rfl | rfl <;> rfl
theorem xu (a v:Int) (A:Option Addr) (N C:Nat) (p:List (List Int)) (w:World):(Instr.build 101 #[(0,.int .i64 a),(1,.int .i32 v),(2,.slice A N C)]).run Tryz.prog w=.ok (.agg (wdC ⟨a,v,A,N,C,p⟩).toArray) w:=by kernel_rfl
theorem Be (x:WdT) (w:World):(Instr.buildSlice 53 1 #[(0,.agg (wdC x).toArray)]).run Tryz.prog w=.ok (.slice (some ⟨w.heap.size,0,none⟩) 1 1) (w.alloc (.cells (wdC x).toArray 101)):=by kernel_rfl
theorem Tryz.infoWd:(Tryz.prog.info? 101).map (fun i=>(i.zero,i.size,i.bytes))=some (some (.agg #[.int .i64 0,.int .i32 0,.slice none 0 0]),3,40):=by kernel_rfl
structure cH (w:World) (base:Nat) (v:Value) (ws:List WdT):Prop where
 own:w.ownsRow base 101 3 v ws.length (ws.flatMap wdC)
 pth:∀x∈ws,w.ownsRow base 45 8 (.slice x.A x.N x.C) x.N (aJ x.p)∧cY x.p
theorem cH.nil (w:World) (base:Nat):cH w base (.slice none 0 0) []:=⟨World.ownsRow_nil _ _ _ _,fun x hx=>by cases hx⟩
theorem cH.later {w w' : World} {base:Nat} {v:Value} {ws:List WdT} (h:cH w base v ws) (hb:Below w.heap.size w w'):cH w' base v ws:=⟨az h.own hb,fun x hx=>⟨az (h.pth x hx).1 hb,(h.pth x hx).2⟩⟩
theorem cH.base {w:World} {base base' : Nat} {v:Value} {ws:List WdT} (h:cH w base v ws) (hb:base'≤base):cH w base' v ws:=⟨dB h.own hb,fun x hx=>⟨dB (h.pth x hx).1 hb,(h.pth x hx).2⟩⟩
theorem xv {w:World} {base size n base' size' n' q:Nat} {e e' : TypeId} {v v' : Value} {xs xs' : List Value} (h:w.ownsRow base e size v n xs) (h' : w.ownsRow base' e' size' v' n' xs') (he:e'≠e) (hq:v.ownBlock=some q):v'.ownBlock≠some q:=by
 rcases dA h with ⟨rfl,_⟩ | ⟨g',cap,zs,rfl,_,hb,_⟩
 ·simp [Value.ownBlock] at hq
 ·simp [Value.ownBlock] at hq;subst hq;exact aP h' hb he
theorem cH.snoc {w w' : World} {base:Nat} {v v' : Value} {ws:List WdT} {x:WdT} (h:cH w base v ws) (hx:w.ownsRow base 45 8 (.slice x.A x.N x.C) x.N (aJ x.p)) (hok:cY x.p) (ho:w'.ownsRow base 101 3 v' (ws.length+1) (ws.flatMap wdC ++ wdC x)) (hg:w.grownBy w' v.ownBlock):cH w' base v' (ws ++ [x]):=by
 have hk:∀{n:Nat} {u:Value} {xs:List Value},w.ownsRow base 45 8 u n xs→w'.ownsRow base 45 8 u n xs:=fun {n u xs} hu=>by
  refine hu.kept hg ?_;cases hq:v.ownBlock with
  | none=>
   cases u.ownBlock with
   | none=>exact .inl rfl
   | some q=>exact .inr (by simp)
  | some q=>exact .inr (xv h.own hu (by decide) hq)
 refine ⟨by rw [List.length_append,List.flatMap_append];simpa using ho,fun y hy=>?_⟩;rcases List.mem_append.1 hy with hy | hy
 ·exact ⟨hk (h.pth y hy).1,(h.pth y hy).2⟩
 ·simp only [List.mem_singleton] at hy;subst hy;exact ⟨hk hx,hok⟩
def tri (x:WdT):Int × Int × List (List Int):=(x.a,x.v,x.p)
def oS (m:List Int) (p:Int):Int × Int × List (List Int):=(p,br m p,dD (eG m) p)
theorem xw {m:List Int} (h:1≤m.length∧m.length≤256) {p:Int} (hp:0≤p∧p < m.length):jX (eG m).length p=0:=by
 have hl:(eG m).length=m.length:=by simp [eG]
 rw [jX,if_pos (by omega),if_pos (by omega)]
set_option maxRecDepth 20000 in
set_option maxHeartbeats 1000000 in
theorem nH (w:World) (g z lo hi:Nat) (T:Tr) (s:MsT) (A:Option Addr) (C:Nat) (hg:Bk w g 90 [.pointer (some ⟨T.g,0,none⟩)]) (ht:dE w lo hi T (eG s.mem)) (hz:oM w z A C s) (PA:Option Addr) (n PC:Nat) (ps:List Int) (hps:Sl w w.heap.size 1 PA n (ps.map (.int .i64))) (hin:∀p∈ps,0≤p∧p < s.mem.length) (hn:n≤10):Calls Tryz.prog 38 #[.slice PA n PC,.pointer (some ⟨g,0,none⟩),.pointer (some ⟨z,0,none⟩)] w fun e w'=>(∃v ws,e=.returned v∧cH w' w.heap.size v ws∧ws.map tri=ps.map (oS s.mem))∧Below w.heap.size w w':=by
 obtain ⟨b,o,hA,hbl,hce⟩:=qk (C:=C) hz.mem hz.ok.len.1;have HG:=aa hg;have HT:=aa ht;have HPS:=aa hps;have HIN:=aa hin;have HLP:=aa hps.length;have HCE:Hid (∀wk,Below w.heap.size w wk→∀j:Nat,j < s.mem.length→wk.cell? ⟨b,o+j,none⟩=some (.int .i32 (br s.mem (j:Int)))):=fun wk hbk j hj=>by rw [hbk.cell hbl];exact hce j hj
 have HZC:Hid (∀wk,Below w.heap.size w wk→wk.cell? ⟨z,1,none⟩=some (.slice (some ⟨b,o,none⟩) s.mem.length C)):=fun wk hbk=>by have:=(hz.bk.later hbk).cell 1;rw [hA] at this;simpa [aF] using this
 have HML:=aa hz.ok.len;clear hg ht hz hps hin hce hA hbl;go_enter Tryz.func38,Tryz.ntmps38;go_wp2_with fail
 go_loopw [5,7,8,9,12] (fun v _ _ _ j wr=>∃(k:Nat) (ws:List WdT),k≤n∧j=.int .i64 k∧Hid (cH wr w.heap.size v ws)∧Hid (ws.map tri=(ps.take k).map (oS s.mem))∧Hid (Below w.heap.size w wr)) (fun _ _ _ _ j _=>n - (intOf j).toNat)
 case atStart=>exact ⟨0,[],Nat.zero_le _,rfl,cH.nil _ _,rfl,Below.refl _ _⟩
 case round=>
  obtain ⟨k,ws,hk,rfl,hO,hE,hB⟩:=hrel;by_cases hlt:k < n
  ·have hkn:(k:Int) < n:=by omega
   obtain ⟨ad,p,hPA,_,hp,hc⟩:=(HPS.below hB.out).at_ hlt;obtain ⟨p0,p1⟩:=HIN.out p (List.mem_of_getElem? hp);obtain ⟨j,hj⟩:∃j:Nat,p=j:=⟨p.toNat,by omega⟩;subst hj;have hjl:j < s.mem.length:=by omega
   have c9:=(HG.later hB.out).cell 0;simp only [List.getElem?_cons_zero] at c9;have HP:=aa hp;subst hPA;have HTP:=aa (m8 wr lo hi T _ (HT.later hB.out) (j:Int));rw [xw HML.out ⟨p0,p1⟩] at HTP;clear hp p0;go_wp2_with fail
   refine HTP.mono ?_;rintro e w2 ⟨⟨v2,rfl,hown⟩,hbn⟩;obtain ⟨PP,hPP⟩:∃x,dD (eG s.mem) (j:Int)=x:=⟨_,rfl⟩;rw [hPP] at hown;have HPO:Hid (cY PP):=by show cY PP;rw [←hPP];exact po _ _
   have HPE:=aa hPP;obtain ⟨A2,C2,rfl⟩:=aI hown;have HW2:=aa (dB hown hB.out.size);have HO2:=aa (hO.out.later hbn);have HB2:=aa (ab hB.out hbn);obtain ⟨y,hy⟩:∃y,br s.mem (j:Int)=y:=⟨_,rfl⟩;have cz:=HZC.out w2 HB2.out;have cm:=HCE.out w2 HB2.out j hjl;rw [hy] at cm;have HY:=aa hy;clear hown hbn hc c9 HTP hy hPP;have hbd:=xu (j:Int) y A2 PP.length C2 PP;go_wp2_with (first | ((with_reducible refine aS rfl 101 _ rfl #[(0,.int .i64 (j:Int)),(1,.int .i32 y),(2,.slice A2 PP.length C2)] ?_ _ (hbd _) ?_);focus (simp [Act.eval,Act.put];done)) | (with_reducible refine a8 53 _ _ rfl ?_))
   refine ak.go ?_;refine ar rfl 53 1 _ rfl #[(0,.agg (wdC ⟨j,y,A2,PP.length,C2,PP⟩).toArray)] ?_ 101 (wdC ⟨j,y,A2,PP.length,C2,PP⟩) (fun w=>Be _ w) ?_
   ·simp [Act.eval,Act.put]
   intro q3 w3 hq3 hb3 hbn;have HN3:=aa hb3;have HW3:=aa (az HW2.out hbn);have HO3:=aa (HO2.later hbn);have HB3:=aa (ab HB2.out hbn);clear hq3 hb3 hbn hbd cz cm;obtain ⟨i0,hj0,hj1,hj2,hj3⟩:=info_parts Tryz.infoWd;have hbw:w.heap.size≤w3.heap.size:=HB3.size;have hwl:ws.length=k:=by have:=congrArg List.length hE.out;rw [List.length_map,List.length_map,List.length_take,HLP.out] at this;omega
   have HWL:=aa hwl;go_wp2_with (at_builtin;refine bm _ rfl (.tmp 24) (.tmp 33) 53 rfl w.heap.size 101 i0 _ _ _ Tryz.underlying53 hj0 hj1 hj2 hj3 rfl (by decide) _ _ _ rfl HO3.own _ _ _ _ _ rfl (HN3.sl (n:=1) rfl (by omega) (fun _ _ h=>h)) (mA _) (by unfold maxLen;omega) (by omega) hbw ?_;intro v4 w4 hown hg hat;refine bA ?_)
   refine ak.go ?_;have HO4:Hid (cH w4 w.heap.size v4 (ws ++ [⟨j,y,A2,PP.length,C2,PP⟩])):=HO3.snoc (x:=⟨j,y,A2,PP.length,C2,PP⟩) HW3.out HPO.out hown hg;have HB4:=aa (aB HB3.out HO3.own hg (Nat.le_refl _) hbw);have HE4:Hid ((ws ++ [(⟨j,y,A2,PP.length,C2,PP⟩:WdT)]).map tri=(ps.take (k+1)).map (oS s.mem)):=by show _=_;rw [cF HP.out,List.map_append,List.map_append,hE.out];simp [tri,oS,HY.out,HPE.out]
   clear hown hg hat hj0 hj1 hj2 hj3 i0 hbw hwl;go_wp2_with fail
   go_roundw
   case rel=>exact ⟨k+1,_,by omega,by go_num,HO4.out,HE4.out,HB4.out⟩
   case measure=>simp [intOf];omega
  ·go_wp2_with fail
   go_ret;have e1:=hE.out;rw [List.take_of_length_le (by rw [HLP.out];omega)] at e1;exact ⟨⟨_,ws,rfl,hO.out,e1⟩,hB.out⟩
def eT (pc halt n:Int) (m:List Int) (i:aX) (P R W:Value):List Value:=[.int .i64 pc,.int .i64 halt,.int .i64 n] ++ (dl m ++ (ay i ++ [P,R,W]))
def dZ:aX:=⟨0,0,0,0⟩
def la:List Value:=eT 0 0 0 ap dZ (.slice none 0 0) (.slice none 0 0) (.slice none 0 0)
section
variable {pc halt n:Int} {m:List Int} {i:aX} {P R W:Value}
theorem ia (hm:aO m):(eT pc halt n m i P R W).length=18:=by simp [eT,bT,hm.len,ay]
theorem mB (hm:aO m):(Tryz.prog.info? 55).map (·.size)=some (eT pc halt n m i P R W).length:=by rw [ia hm];exact (show (Tryz.prog.info? 55).map (·.size)=some 18 by kernel_rfl)
theorem oT (hP:P.oneCell'=true) (hR:R.oneCell'=true) (hW:W.oneCell'=true):∀v∈eT pc halt n m i P R W,v.oneCell'=true:=by
 intro v hv;simp only [eT,List.mem_append,List.mem_cons,List.not_mem_nil,or_false] at hv;rcases hv with (rfl | rfl | rfl) | hv | hv | (rfl | rfl | rfl)
 ·rfl
 ·rfl
 ·rfl
 ·exact bN _ v hv
 ·exact dN i v hv
 ·exact hP
 ·exact hR
 ·exact hW
theorem xx:eT pc halt n m i P R W=([.int .i64 pc,.int .i64 halt,.int .i64 n] ++ dl m) ++ (ay i ++ [P,R,W]):=by simp [eT]
theorem zn:eT pc halt n m i P R W=([.int .i64 pc,.int .i64 halt,.int .i64 n] ++ dl m ++ ay i) ++ ([P] ++ [R,W]):=by simp [eT]
theorem zo:eT pc halt n m i P R W=([.int .i64 pc,.int .i64 halt,.int .i64 n] ++ dl m ++ ay i ++ [P]) ++ ([R] ++ [W]):=by simp [eT]
theorem zp:eT pc halt n m i P R W=([.int .i64 pc,.int .i64 halt,.int .i64 n] ++ dl m ++ ay i ++ [P,R]) ++ ([W] ++ []):=by simp [eT]
end
theorem nJ {m:List Int} (hm:aO m) (pc halt n:Int) (w:World):(Instr.build 55 #[(0,.int .i64 pc),(1,.int .i64 halt),(2,.int .i64 n),(3,.agg (dl m).toArray)]).run Tryz.prog w=.ok (.agg (eT pc halt n m dZ (.slice none 0 0) (.slice none 0 0) (.slice none 0 0)).toArray) w:=by obtain ⟨x0,x1,x2,x3,x4,x5,x6,x7,rfl⟩:=dQ m hm.len;kernel_rfl
structure eH where
 i:aX
 AP:Option Addr
 NP:Nat
 CP:Nat
 p:List (List Int)
 AR:Option Addr
 NR:Nat
 CR:Nat
 rs:List WdT
 AW:Option Addr
 NW:Nat
 CW:Nat
 ws:List WdT
def dP (s:MsT):List Int:=dU (eG s.mem)
theorem bS (s:MsT):aO (dP s):=gz _
def bC (s:MsT) (t:eH):List Value:=eT s.pc s.halt s.mem.length (dP s) t.i (.slice t.AP t.NP t.CP) (.slice t.AR t.NR t.CR) (.slice t.AW t.NW t.CW)
theorem bv (s:MsT) (t:eH):(Tryz.prog.info? 55).map (·.size)=some (bC s t).length:=mB (bS s)
theorem ky (s:MsT) (t:eH):∀v∈bC s t,v.oneCell'=true:=oT rfl rfl rfl
def qz (L:List aX) (s:MsT) (t:eH):Prop:=
 ((L.length:Int)≤s.pc∧t.i=dZ∧t.p=[]∧t.rs=[]∧t.ws=[])∨
 (s.pc < L.length∧L[s.pc.toNat]?=some t.i∧t.p=dD (jH L) s.pc∧t.rs.map tri=(aE (L.map toI) s).1.map (oS s.mem)∧t.ws.map tri=(if 0≤(aE (L.map toI) s).2 then [(aE (L.map toI) s).2] else []).map (oS s.mem))
structure ib (w:World) (base:Nat) (t:eH):Prop where
 p:w.ownsRow base 45 8 (.slice t.AP t.NP t.CP) t.NP (aJ t.p)
 pk:cY t.p
 r:cH w base (.slice t.AR t.NR t.CR) t.rs
 w:cH w base (.slice t.AW t.NW t.CW) t.ws
structure MkS (w wk:World) (z g8 g9:Nat) (T1 T2:Tr) (l1 h1 l2 h2:Nat) (L:List aX) (s:MsT) (A:Option Addr) (C:Nat) (cs:List Value):Prop where
 hb:Below w.heap.size w wk
 bk:Bk wk z 38 (aF s.pc (.slice A s.mem.length C) s.halt)
 rb:Bk wk (z+1) 55 la
 t8:Bk wk g8 90 [.pointer (some ⟨T2.g,0,none⟩)]
 t1:dE wk l1 h1 T1 (jH L)
 t2:dE wk l2 h2 T2 (eG s.mem)
 stp:Bk wk g9 55 cs
 lo:w.heap.size≤g9
 ne:z+1≠g9
 n1:h1≤g9
 n2:h2≤g9
section
variable {w wk wk' : World} {z g8 g9:Nat} {T1 T2:Tr} {l1 h1 l2 h2:Nat} {L:List aX} {s:MsT} {A:Option Addr} {C:Nat} {cs cs' : List Value}
theorem MkS.later (h:MkS w wk z g8 g9 T1 T2 l1 h1 l2 h2 L s A C cs) (hb:Below wk.heap.size wk wk'):MkS w wk' z g8 g9 T1 T2 l1 h1 l2 h2 L s A C cs:=
 ⟨ab h.hb hb,h.bk.later hb,h.rb.later hb,h.t8.later hb,h.t1.later hb,h.t2.later hb,h.stp.later hb,h.lo,h.ne,h.n1,h.n2⟩
theorem MkS.put (h:MkS w wk z g8 g9 T1 T2 l1 h1 l2 h2 L s A C cs) (hp:Put wk wk' g9 55 cs'):MkS w wk' z g8 g9 T1 T2 l1 h1 l2 h2 L s A C cs':=
 ⟨ag h.hb hp.only h.hb.size h.lo,h.bk.grown hp.only (fun e=>by injection e with e;exact h.stp.ne_ h.bk (by decide) e.symm),h.rb.grown hp.only (fun e=>by injection e with e;exact h.ne e),h.t8.grown hp.only (fun e=>by injection e with e;exact h.stp.ne_ h.t8 (by decide) e.symm),h.t1.keep hp.only.size (fun b _ hb=>hp.only.block b (Nat.lt_of_lt_of_le hb (Nat.le_trans h.n1 (Nat.le_of_lt h.stp.lt))) (fun e=>by injection e with e;have:=h.n1;omega)),h.t2.keep hp.only.size (fun b _ hb=>hp.only.block b (Nat.lt_of_lt_of_le hb (Nat.le_trans h.n2 (Nat.le_of_lt h.stp.lt))) (fun e=>by injection e with e;have:=h.n2;omega)),hp.bk,h.lo,h.ne,h.n1,h.n2⟩
theorem MkS.ms (h:MkS w wk z g8 g9 T1 T2 l1 h1 l2 h2 L s A C cs) (hm:Sl w w.heap.size 1 A s.mem.length (s.mem.map (.int .i32))) (ok:eF s):oM wk z A C s:=⟨h.bk,(hm.below h.hb).more h.hb.size,ok⟩
end
theorem cH.put {w w' : World} {base g:Nat} {v:Value} {ws:List WdT} {t:TypeId} {cs:List Value} (h:cH w base v ws) (hg:w.grownBy w' (some g)) (hb:Bk w g t cs) (h1:101≠t) (h2:45≠t):cH w' base v ws:=
 ⟨bx h.own hg (aP h.own hb h1),fun x hx=>⟨bx (h.pth x hx).1 hg (aP (h.pth x hx).1 hb h2),(h.pth x hx).2⟩⟩
def Bf (base:Nat) (L:List aX) (s:MsT) (e:Ending) (w:World):Prop:=∃t:eH,e=.returned (.tuple #[.agg (bC s t).toArray,.int .i64 0])∧ib w base t∧qz L s t
theorem qA {ops:Array Oper} {rest:List Oper} {op:Oper} {a:Act} {w:World} {Q:Exit→Act→World→Prop} (ty:TypeId) (x y:Operand) (ho:op.op=.store ty x y) (g:Nat) (hg:w.heap.size=g) (V:Value) {T:TypeId} {Z:Array Value} (hgd:op.guard=none) (hz:Z.size=1) (hx:a.eval x=.pointer (some ⟨g,0,none⟩)) (hy:a.eval y=V) (hV:V.cells=[V].toArray) (hi:(Tryz.prog.info? ty).map (·.size)=some 1) (h1:V.oneCell'=true) (h:∀w',Bk w' g T [V]→Below w.heap.size w w'→wpList Tryz.prog ops Q rest (a.put op.dst undef) w'):wpList Tryz.prog ops Q (op :: rest) a (w.alloc (.cells Z T)):=by refine ae hgd ty x y ho g 0 V [V] hx hy hV T [] Z.toList [] (by simpa using (Bk.at_ w T Z hg rfl)) rfl (by simpa using hz) hi (by intro v hv;simp at hv;subst hv;exact h1) fun w' hp=>?_;refine h w' (by have:=hp.bk;simpa using this) ?_;exact (ai w _).grown hp.only (ai w _).size (fun q hq=>by injection hq with hq;omega)
theorem yR (w:World) (base:Nat):w.ownsRow base 45 8 (.slice none 0 0) 0 (aJ []):=World.ownsRow_nil _ _ _ _
set_option maxRecDepth 20000 in
set_option maxHeartbeats 2000000 in
theorem uG (w:World) (s:MsT) (A:Option Addr) (C:Nat) (c:Sln) (L:List aX) (hm:Sl w w.heap.size 1 A s.mem.length (s.mem.map (.int .i32))) (ok:eF s) (h0:s.halt=0) (hc:bZ w w.heap.size c L) (hL:cX w) (h6:6≤w.heap.size):Calls Tryz.prog 13 #[.slice c.A c.N c.C,.agg (aF s.pc (.slice A s.mem.length C) s.halt).toArray] w fun e w'=>Bf w.heap.size L s e w'∧Below w.heap.size w w':=by
 obtain ⟨z,hz⟩:∃z,w.heap.size=z:=⟨_,rfl⟩;obtain ⟨Z,hZ⟩:∃Z:Array Value,#[.int .i64 0,.int .i64 0,.int .i64 0,.int .u8 0,.int .u8 0,.int .u8 0,.int .u8 0,.int .u8 0,.int .u8 0,.int .u8 0,.int .u8 0,.int .i64 0,.int .i64 0,.int .i64 0,.int .i64 0,.slice none 0 0,.slice none 0 0,.slice none 0 0]=Z:=⟨_,rfl⟩;have hZl:Z.toList=la:=by rw [←hZ];rfl
 obtain ⟨w1,hw1⟩:∃w1,(w.alloc (.cells (aF s.pc (.slice A s.mem.length C) s.halt).toArray 38)).alloc (.cells Z 55)=w1:=⟨_,rfl⟩;have hk:Bk w1 z 38 (aF s.pc (.slice A s.mem.length C) s.halt):=hw1▸(Bk.at_ w _ _ hz rfl).alloc _;have hr:Bk w1 (z+1) 55 la:=hw1▸Bk.at_ _ _ _ (by simp [hz]) hZl;have hb:Below w.heap.size w w1:=hw1▸(ai w _).alloc (by simp) _;have HW:=aa hw1;have HB:=aa hb;have HZ:=aa hz;have HK:=aa hk;have HR:=aa hr;have HM:=aa hm;have HOK:=aa ok;have H0:=aa h0;have HC:=aa hc;have HL:=aa hL;have H6:=aa h6;have HCT:=aa (kx w1 c L ((hc.below hb).more hb.size));have HIC:Hid (∀wk,Below w.heap.size w wk→bZ wk wk.heap.size c L):=fun wk h=>(hc.below h).more h.size;have HLN:=aa hc.len;clear hk hr hw1 hz hb hm ok h0 hc hL h6 hZl;go_enter Tryz.func13,Tryz.ntmps13;go_upto_region 1 with fail
 rw [HW.out,HZ.out];clear hZ;go_wp2_with fail
 refine HCT.mono ?_;rintro e w2 ⟨⟨T1,hi1,rfl,ht1⟩,hbn⟩;have HT1:=aa ht1;have HB2:=aa (ab HB.out hbn);have HK2:=aa (HK.later hbn);have HR2:=aa (HR.later hbn);clear ht1 hbn HCT;go_wp2_with (with_reducible refine aj rfl 38 _ rfl z rfl (aF s.pc (.slice A s.mem.length C) s.halt) 38 HK2.out _ Tryz.underlying38 rfl (aN _ _ _) ?_)
 refine (iL w2 s A C ((HM.below HB2.out).more HB2.size) HOK.out).mono ?_;rintro e w3 ⟨⟨T2,hi2,rfl,ht2⟩,hbn⟩;have HT2:=aa ht2;have HT13:=aa (HT1.later hbn);have HB3:=aa (ab HB2.out hbn);have HK3:=aa (HK2.later hbn);have HR3:=aa (HR2.later hbn);clear ht2 hbn;go_wp2_with (with_reducible refine ah 90 _ _ rfl ?_)
 refine ak.go ?_;obtain ⟨g8,hg8⟩:∃q,w3.heap.size=q:=⟨_,rfl⟩;rw [hg8];refine qA 90 _ _ rfl g8 hg8 (.pointer (some ⟨T2.g,0,none⟩)) rfl rfl rfl rfl rfl (by kernel_rfl) rfl ?_;intro w4 hk8 hbn;have HP4:=aa hk8;have HT14:=aa (HT13.later hbn);have HT24:=aa (HT2.later hbn);have HB4:=aa (ab HB3.out hbn);have HK4:=aa (HK3.later hbn);have HR4:=aa (HR3.later hbn);clear hk8 hbn hg8;go_upto_region 7 with fail
 go_cut [9] (fun p9 wx=>∃g9,p9=.pointer (some ⟨g9,0,none⟩)∧Hid (MkS w wx z g8 g9 T1 T2 w1.heap.size hi1 w2.heap.size hi2 L s A C (eT s.pc s.halt s.mem.length (dP s) dZ (.slice none 0 0) (.slice none 0 0) (.slice none 0 0))))
 case first=>
  refine wp_region_held_drew (S:=fun wk=>Bk wk z 38 (aF s.pc (.slice A s.mem.length C) s.halt)∧wk.cell? ⟨g8,0,none⟩=some (.pointer (some ⟨T2.g,0,none⟩))) (by kernel_rfl) ⟨HK4.later (ac w4 _ 1),(HP4.later (ac w4 _ 1)).cell 0⟩ (fun hHeld=>?_);obtain ⟨w5,hw5⟩:∃wa,w4.drew=wa:=⟨_,rfl⟩;have hb5:Below w4.heap.size w4 w5:=hw5▸ac w4 w4.heap.size 1;rw [hw5] at hHeld ⊢;have HP5:=aa (HP4.later hb5);have HT15:=aa (HT14.later hb5);have HT25:=aa (HT24.later hb5);have HB5:=aa (ab HB4.out hb5);have HK5:=aa (HK4.later hb5);have HR5:=aa (HR4.later hb5);clear hw5 hb5;refine tk 0 ?_;refine tk 2 ?_;refine tk 4 ?_;refine tkv 7 rfl (fun w hSw=>by have hcell:=hSw.2;clear hSw;go_simp;try with_reducible rfl) ?_;refine tkv 1 rfl (fun w hSw=>by have hcell:=(show w.cell? ⟨z,0,none⟩=some (.int .i64 s.pc) from hSw.1.cell 0);clear hSw;go_simp;try with_reducible rfl) ?_;refine tkv 3 rfl (fun w hSw=>by have hcell:=(show w.cell? ⟨z,2,none⟩=some (.int .i64 s.halt) from hSw.1.cell 2);clear hSw;go_simp;try with_reducible rfl) ?_;refine tkv 5 rfl (fun w hSw=>by have hcell:=(show w.cell? ⟨z,1,none⟩=some (.slice A s.mem.length C) from hSw.1.cell 1);clear hSw;go_simp;try with_reducible rfl) ?_;refine tk 6 ?_;obtain ⟨m,hmd⟩:∃m,dP s=m:=⟨_,rfl⟩;have HMO:Hid (aO m):=by show aO m;rw [←hmd];exact bS _
  have HRT:Hid (∀wk lo hi,dE wk lo hi T2 (eG s.mem)→Calls Tryz.prog 33 #[.pointer (some ⟨T2.g,0,none⟩)] wk fun e w'=>e=.returned (.agg (dl m).toArray)∧Below wk.heap.size wk w'):=fun wk lo hi h=>by rw [←hmd];exact kG wk lo hi T2 _ h
  have HME:=aa hmd;clear hmd;refine wpAnyH_ready (rs:=[8,10]) (by kernel_rfl) (by simp) ?_;refine AllReadyH.cons rfl (fun Kx hK=>?_) (AllReadyH.cons rfl (fun Kx hK=>?_) AllReadyH.nil)
  ·go_simp;refine (HRT.out w5 _ hi2 HT25.out).mono ?_;rintro e w6 ⟨rfl,hbn⟩;have HP6:=aa (HP5.later hbn);have HT16:=aa (HT15.later hbn);have HT26:=aa (HT25.later hbn);have HB6:=aa (ab HB5.out hbn);have HK6:=aa (HK5.later hbn);have HR6:=aa (HR5.later hbn);clear hbn;refine so hK ⟨HK6.out,HP6.cell 0⟩ (fun hHeld=>?_);clear hK Kx;refine wpAnyH_take (i:=9) (v:=.agg (List.toArray (eT s.pc s.halt s.mem.length m dZ (.slice none 0 0) (.slice none 0 0) (.slice none 0 0)))) rfl (by kernel_rfl) (by kernel_rfl) (by kernel_rfl) (fun _ _ _ h=>h) (bF (by rfl) _ _ rfl #[(0,.int .i64 s.pc),(1,.int .i64 s.halt),(2,.int .i64 s.mem.length),(3,.agg (dl m).toArray)] (by simp [Act.eval]) _ (nJ HMO.out s.pc s.halt s.mem.length)) (by assumption) ?_;try simp only [Act.put,q1,q2,q3,q4,q5,q6]
   refine rd1 10 (fun Kx hK=>?_);go_simp;obtain ⟨g9,hg9⟩:∃q,w6.heap.size=q:=⟨_,rfl⟩;obtain ⟨w7,hw7⟩:∃wa,w6.alloc (.cells #[.int .i64 0,.int .i64 0,.int .i64 0,.int .u8 0,.int .u8 0,.int .u8 0,.int .u8 0,.int .u8 0,.int .u8 0,.int .u8 0,.int .u8 0,.int .i64 0,.int .i64 0,.int .i64 0,.int .i64 0,.slice none 0 0,.slice none 0 0,.slice none 0 0] 55)=wa:=⟨_,rfl⟩;have hbn:Below w6.heap.size w6 w7:=hw7▸ai w6 _;have HN7:Hid (Bk w7 g9 55 la):=by show Bk _ _ _ _;rw [←hw7,←hg9];exact Bk.new' _ _ _ rfl
   have HGT:Hid (T1.g=T1.g∧hi1≤g9∧hi2≤g9∧z+1 < g9∧w.heap.size≤g9):=by obtain ⟨_,t1,_⟩:=HT16.out;obtain ⟨_,t2,_⟩:=HT26.out;have h1:=t1.hih;have h2:=t2.hih;have h3:=HR6.lt;have h4:=HB6.size;exact ⟨rfl,by omega,by omega,by omega,by omega⟩
   have HP7:=aa (HP6.later hbn);have HT17:=aa (HT16.later hbn);have HT27:=aa (HT26.later hbn);have HB7:=aa (ab HB6.out hbn);have HK7:=aa (HK6.later hbn);have HR7:=aa (HR6.later hbn);rw [hw7,hg9];clear hw7 hg9 hbn;refine hK.out _ _ ⟨HK7.out,HP7.cell 0⟩ (fun hHeld=>?_);clear hK Kx;try simp only [Act.put,q1,q2,q3,q4,q5,q6]
   refine rdw 11 (fun K hK=>?_);refine au _ _ _ rfl g9 0 _ (eT s.pc s.halt s.mem.length m dZ (.slice none 0 0) (.slice none 0 0) (.slice none 0 0)) rfl rfl rfl _ [] la [] (by simpa using HN7.out) rfl (by rw [ia HMO.out];rfl) (mB HMO.out) (oT rfl rfl rfl) ?_;intro w8 hp;have HMK:Hid (MkS w w7 z g8 g9 T1 T2 w1.heap.size hi1 w2.heap.size hi2 L s A C la):=⟨HB7.out,HK7.out,HR7.out,HP7.out,HT17.out,HT27.out,HN7.out,HGT.out.2.2.2.2,by have:=HGT.out.2.2.2.1;omega,HGT.out.2.1,HGT.out.2.2.1⟩;have HM8:=aa (HMK.put ⟨by have:=hp.bk;simpa using this,hp.only,hp.size⟩);clear hp;refine so hK ⟨HM8.bk,HM8.t8.cell 0⟩ (fun hHeld=>?_);clear hK K;refine wpAnyH_done rfl ?_ _;go_wp2_with fail
   go_meet;rw [HME.out];exact ⟨g9,rfl,HM8.out⟩
  ·
   go_simp;obtain ⟨g9,hg9⟩:∃q,w5.heap.size=q:=⟨_,rfl⟩;obtain ⟨w6,hw6⟩:∃wa,w5.alloc (.cells #[.int .i64 0,.int .i64 0,.int .i64 0,.int .u8 0,.int .u8 0,.int .u8 0,.int .u8 0,.int .u8 0,.int .u8 0,.int .u8 0,.int .u8 0,.int .i64 0,.int .i64 0,.int .i64 0,.int .i64 0,.slice none 0 0,.slice none 0 0,.slice none 0 0] 55)=wa:=⟨_,rfl⟩;have hbn:Below w5.heap.size w5 w6:=hw6▸ai w5 _;have HN6:Hid (Bk w6 g9 55 la):=by show Bk _ _ _ _;rw [←hw6,←hg9];exact Bk.new' _ _ _ rfl
   have HGT:Hid (T1.g=T1.g∧hi1≤g9∧hi2≤g9∧z+1 < g9∧w.heap.size≤g9):=by obtain ⟨_,t1,_⟩:=HT15.out;obtain ⟨_,t2,_⟩:=HT25.out;have h1:=t1.hih;have h2:=t2.hih;have h3:=HR5.lt;have h4:=HB5.size;exact ⟨rfl,by omega,by omega,by omega,by omega⟩
   have HP6:=aa (HP5.later hbn);have HT16:=aa (HT15.later hbn);have HT26:=aa (HT25.later hbn);have HB6:=aa (ab HB5.out hbn);have HK6:=aa (HK5.later hbn);have HR6:=aa (HR5.later hbn);rw [hw6,hg9];clear hw6 hg9 hbn;refine hK.out _ _ ⟨HK6.out,HP6.cell 0⟩ (fun hHeld=>?_);clear hK Kx;try simp only [Act.put,q1,q2,q3,q4,q5,q6]
   refine rd1 8 (fun Kx hK=>?_);go_simp;refine (HRT.out w6 _ hi2 HT26.out).mono ?_;rintro e w7 ⟨rfl,hbn⟩;have HP7:=aa (HP6.later hbn);have HT17:=aa (HT16.later hbn);have HT27:=aa (HT26.later hbn);have HB7:=aa (ab HB6.out hbn);have HK7:=aa (HK6.later hbn);have HR7:=aa (HR6.later hbn);have HN7:=aa (HN6.later hbn);clear hbn;refine so hK ⟨HK7.out,HP7.cell 0⟩ (fun hHeld=>?_);clear hK Kx;refine wpAnyH_take (i:=9) (v:=.agg (List.toArray (eT s.pc s.halt s.mem.length m dZ (.slice none 0 0) (.slice none 0 0) (.slice none 0 0)))) rfl (by kernel_rfl) (by kernel_rfl) (by kernel_rfl) (fun _ _ _ h=>h) (bF (by rfl) _ _ rfl #[(0,.int .i64 s.pc),(1,.int .i64 s.halt),(2,.int .i64 s.mem.length),(3,.agg (dl m).toArray)] (by simp [Act.eval]) _ (nJ HMO.out s.pc s.halt s.mem.length)) (by assumption) ?_;try simp only [Act.put,q1,q2,q3,q4,q5,q6]
   refine rdw 11 (fun K hK=>?_);refine au _ _ _ rfl g9 0 _ (eT s.pc s.halt s.mem.length m dZ (.slice none 0 0) (.slice none 0 0) (.slice none 0 0)) rfl rfl rfl _ [] la [] (by simpa using HN7.out) rfl (by rw [ia HMO.out];rfl) (mB HMO.out) (oT rfl rfl rfl) ?_;intro w8 hp;have HMK:Hid (MkS w w7 z g8 g9 T1 T2 w1.heap.size hi1 w2.heap.size hi2 L s A C la):=⟨HB7.out,HK7.out,HR7.out,HP7.out,HT17.out,HT27.out,HN7.out,HGT.out.2.2.2.2,by have:=HGT.out.2.2.2.1;omega,HGT.out.2.1,HGT.out.2.2.1⟩;have HM8:=aa (HMK.put ⟨by have:=hp.bk;simpa using this,hp.only,hp.size⟩);clear hp;refine so hK ⟨HM8.bk,HM8.t8.cell 0⟩ (fun hHeld=>?_);clear hK K;refine wpAnyH_done rfl ?_ _;go_wp2_with fail
   go_meet;rw [HME.out];exact ⟨g9,rfl,HM8.out⟩
 obtain ⟨g9,rfl,HMc⟩:=hcut;refine ‹∀(a:Act) (w:World),Code.wp _ _ _ a w→_› _ _ ?_;clear HT1 HT2 HT13 HT14 HT24 HB3 HB4 HK3 HK4 HR3 HR4 HP4 HB2 HK2 HR2;obtain ⟨p,hp⟩:∃p:Nat,s.pc=p:=⟨s.pc.toNat,by have:=HOK.pc;omega⟩;have HPC:=aa hp;have d0:wc.cell? ⟨z,0,none⟩=some (.int .i64 (p:Int)):=by rw [←hp];exact HMc.bk.cell 0
 have d2:wc.cell? ⟨z,2,none⟩=some (.int .i64 0):=by have:=HMc.bk.cell 2;simpa [aF,H0.out] using this
 clear hp;by_cases hlt:p < c.N
 ·obtain ⟨b,o,i,hA,hbl,hi,hr,hok⟩:=HC.spot hlt;have HI:=aa hi;have HOI:=aa hok;have HRG:Hid (∀wk,Below w.heap.size w wk→wk.rangeAt b (o+p*4) (ay i)):=fun wk h=>bu hr h hbl;have HA:=aa hA;have hpN:(p:Int) < c.N:=by omega
  have hIN:Hid (∀wk,Below w.heap.size w wk→bZ wk wk.heap.size c L):=HIC.out;clear hi hok hr hA hbl;rw [HA.out];go_wp2_with (first | (with_reducible refine wpList_load_mid rfl 51 _ rfl b (o+p*4) rfl (ay i) _ (HRG.out _ HMc.out.hb) Tryz.underlying51 rfl (aW i) ?_) | (with_reducible refine ah 51 _ _ rfl ?_))
  refine ak.go ?_;refine ae rfl 51 _ _ rfl g9 11 (.agg (ay i).toArray) (ay i) rfl rfl rfl 55 ([.int .i64 s.pc,.int .i64 s.halt,.int .i64 s.mem.length] ++ dl (dP s)) (ay dZ) [.slice none 0 0,.slice none 0 0,.slice none 0 0] (by have:=HMc.stp;rw [xx] at this;exact this) (by simp [bT,(bS s).len]) rfl (aW i) (dN i) ?_;intro w5 hp5;have HM5:=aa (HMc.put (cs':=eT s.pc s.halt s.mem.length (dP s) i (.slice none 0 0) (.slice none 0 0) (.slice none 0 0)) ⟨by rw [xx];exact hp5.bk,hp5.only,hp5.size⟩);clear hp5 d0 d2;have d0:w5.cell? ⟨z,0,none⟩=some (.int .i64 (p:Int)):=by rw [←HPC.out];exact HM5.bk.cell 0
  have HPA:=aa (m8 w5 w1.heap.size hi1 T1 _ HM5.t1 (p:Int));have hpe:jX (jH L).length (p:Int)=0:=by
   have hl:(jH L).length=c.N:=by rw [jH,List.length_map];exact HLN.out
   have:=HC.few;rw [jX,if_pos (by omega),if_pos (by omega)]
  rw [hpe] at HPA;clear hpe;go_wp2_with fail
  refine HPA.mono ?_;rintro e w6 ⟨⟨v6,rfl,hown⟩,hbn⟩;obtain ⟨PP,hPP⟩:∃x,dD (jH L) (p:Int)=x:=⟨_,rfl⟩;rw [hPP] at hown;have HPE:=aa hPP;have HPO:Hid (cY PP):=by show cY PP;rw [←hPP];exact po _ _
  obtain ⟨A6,C6,rfl⟩:=aI hown;have HO6:=aa (dB hown HM5.hb.size);have HM6:=aa (HM5.later hbn);clear hown hbn HPA d0 hPP;go_wp2_with (with_reducible refine ah 52 _ _ rfl ?_)
  refine ak.go ?_;refine ae rfl 52 _ _ rfl g9 15 (.slice A6 PP.length C6) [.slice A6 PP.length C6] rfl rfl rfl 55 ([.int .i64 s.pc,.int .i64 s.halt,.int .i64 s.mem.length] ++ dl (dP s) ++ ay i) [.slice none 0 0] [.slice none 0 0,.slice none 0 0] (by have:=HM6.stp;rw [zn] at this;exact this) (by simp [bT,(bS s).len,ay]) rfl (by kernel_rfl) (by intro v hv;simp at hv;subst hv;rfl) ?_;intro w7 hp7;have HM7:=aa (HM6.put (cs':=eT s.pc s.halt s.mem.length (dP s) i (.slice A6 PP.length C6) (.slice none 0 0) (.slice none 0 0)) ⟨by rw [zn];exact hp7.bk,hp7.only,hp7.size⟩);have HO7:=aa (bx HO6.out hp7.only (aP HO6.out HM6.stp (by decide)));clear hp7;go_wp2_with (with_reducible refine aj rfl 38 _ rfl z rfl (aF s.pc (.slice A s.mem.length C) s.halt) 38 HM7.out.bk _ Tryz.underlying38 rfl (aN _ _ _) ?_)
  have HRD:=aa (mv w7 s A C c L ((HM.below HM7.hb).more HM7.hb.size) HOK.out H0.out (HIC.out _ HM7.hb) (HL.below H6.out HM7.hb));rw [HA.out] at HRD;refine HRD.mono ?_;rintro e w8 ⟨⟨v8,rfl,hown⟩,hbn⟩;obtain ⟨rs,hrs⟩:∃x,(aE (L.map toI) s).1=x:=⟨_,rfl⟩;obtain ⟨wi,hwi⟩:∃x,(aE (L.map toI) s).2=x:=⟨_,rfl⟩;have hrl:=kH (L.map toI) s;have hrin:∀x∈rs,0≤x∧x < s.mem.length:=fun x hx=>lO (l:=L.map toI) (s:=s) (by rw [hrs];exact hx);have hwin:0≤wi→wi < s.mem.length:=fun h=>by rw [←hwi] at h ⊢;exact nh h
  rw [hrs] at hown hrl;rw [hwi];obtain ⟨A8,C8,rfl⟩:=aI hown;have HW8:=aa hown;have HM8:=aa (HM7.later hbn);have HO8:=aa (az HO7.out hbn);have HRE:Hid ((aE (L.map toI) s).1=rs∧(aE (L.map toI) s).2=wi):=⟨hrs,hwi⟩;have HRI:=aa (And.intro hrl hrin);have HWI:=aa hwin;clear hown hbn HRD hrs hwi hrl hrin hwin;have HSH:=aa (nH w8 g8 z _ hi2 T2 s A C HM8.t8 HM8.t2 (HM8.ms HM.out HOK.out) A8 rs.length C8 rs (Sl.of_own HW8.out) HRI.out.2 (by have:=HRI.out.1;omega));go_wp2_with fail
  refine HSH.mono ?_;rintro e w9 ⟨⟨v9,ws1,rfl,hw1,he1⟩,hbn⟩;obtain ⟨A9,C9,rfl⟩:=aI hw1.own;have HX9:=aa (hw1.base HM8.hb.size);have HE1:=aa he1;have HM9:=aa (HM8.later hbn);have HO9:=aa (az HO8.out hbn);clear hw1 he1 hbn HSH;go_wp2_with (with_reducible refine ah 53 _ _ rfl ?_)
  refine ak.go ?_;refine ae rfl 53 _ _ rfl g9 16 (.slice A9 ws1.length C9) [.slice A9 ws1.length C9] rfl rfl rfl 55 ([.int .i64 s.pc,.int .i64 s.halt,.int .i64 s.mem.length] ++ dl (dP s) ++ ay i ++ [.slice A6 PP.length C6]) [.slice none 0 0] [.slice none 0 0] (by have:=HM9.stp;rw [zo] at this;exact this) (by simp [bT,(bS s).len,ay]) rfl (by kernel_rfl) (by intro v hv;simp at hv;subst hv;rfl) ?_;intro w10 hp;have HM10:=aa (HM9.put (cs':=eT s.pc s.halt s.mem.length (dP s) i (.slice A6 PP.length C6) (.slice A9 ws1.length C9) (.slice none 0 0)) ⟨by rw [zo];exact hp.bk,hp.only,hp.size⟩);have HO10:=aa (bx HO9.out hp.only (aP HO9.out HM9.stp (by decide)));have HX10:=aa (HX9.put hp.only HM9.stp (by decide) (by decide));clear hp;by_cases hw0:0≤wi
  ·have hwl:=HWI.out hw0;go_wp2_with (with_reducible refine a8 22 _ _ rfl ?_)
   refine ak.go ?_;refine ar (by rfl) 22 1 _ rfl #[(0,.int .i64 wi)] (by simp [Act.eval,Act.put]) 3 [.int .i64 wi] (fun w=>jF _ w) ?_;intro q11 w11 hq11 hb11 hbn;have HN11:=aa hb11;have HM11:=aa (HM10.later hbn);have HO11:=aa (az HO10.out hbn);have HX11:=aa (HX10.later hbn);clear hq11 hb11 hbn;have HSH:=aa (nH w11 g8 z _ hi2 T2 s A C HM11.t8 HM11.t2 (HM11.ms HM.out HOK.out) (some ⟨q11,0,none⟩) 1 1 [wi] (HN11.sl (n:=1) rfl (by omega) (fun _ _ h=>h)) (fun x hx=>by simp at hx;subst hx;exact ⟨hw0,hwl⟩) (by omega));go_wp2_with fail
   refine HSH.mono ?_;rintro e w12 ⟨⟨v12,ws2,rfl,hw2,he2⟩,hbn⟩;obtain ⟨A12,C12,rfl⟩:=aI hw2.own;have HZ12:=aa (hw2.base HM11.hb.size);have HE2:=aa he2;have HM12:=aa (HM11.later hbn);have HO12:=aa (az HO11.out hbn);have HX12:=aa (HX11.later hbn);clear hw2 he2 hbn HSH;go_wp2_with (with_reducible refine ah 53 _ _ rfl ?_)
   refine ak.go ?_;refine ae rfl 53 _ _ rfl g9 17 (.slice A12 ws2.length C12) [.slice A12 ws2.length C12] rfl rfl rfl 55 ([.int .i64 s.pc,.int .i64 s.halt,.int .i64 s.mem.length] ++ dl (dP s) ++ ay i ++ [.slice A6 PP.length C6,.slice A9 ws1.length C9]) [.slice none 0 0] [] (by have:=HM12.stp;rw [zp] at this;exact this) (by simp [bT,(bS s).len,ay]) rfl (by kernel_rfl) (by intro v hv;simp at hv;subst hv;rfl) ?_;intro w13 hp;have HM13:=aa (HM12.put (cs':=eT s.pc s.halt s.mem.length (dP s) i (.slice A6 PP.length C6) (.slice A9 ws1.length C9) (.slice A12 ws2.length C12)) ⟨by rw [zp];exact hp.bk,hp.only,hp.size⟩);have HO13:=aa (bx HO12.out hp.only (aP HO12.out HM12.stp (by decide)));have HX13:=aa (HX12.put hp.only HM12.stp (by decide) (by decide));have HZ13:=aa (HZ12.put hp.only HM12.stp (by decide) (by decide));clear hp;have HTT:Hid (∃t:eH,eT s.pc s.halt s.mem.length (dP s) i (.slice A6 PP.length C6) (.slice A9 ws1.length C9) (.slice A12 ws2.length C12)=bC s t∧ib w13 w.heap.size t∧qz L s t):=⟨⟨i,A6,PP.length,C6,PP,A9,ws1.length,C9,ws1,A12,ws2.length,C12,ws2⟩,rfl,⟨HO13.out,HPO.out,HX13.out,HZ13.out⟩,.inr ⟨by rw [HPC.out,HLN.out];exact hpN,by rw [HPC.out,Int.toNat_natCast];exact HI.out,by rw [HPC.out];exact HPE.symm,by rw [HRE.out.1];exact HE1.out,by rw [HRE.out.2,if_pos hw0];exact HE2.out⟩⟩;obtain ⟨t,ht,hto,hts⟩:=HTT.out;have HTO:=aa hto;have HTS:=aa hts;have HMz:=aa HM13.out;rw [ht] at HMz;clear hto hts HTT ht;go_wp2_with (first | (with_reducible refine aj rfl 55 _ rfl g9 rfl (bC s t) 55 HMz.out.stp _ Tryz.underlying55 rfl (bv s t) ?_) | (with_reducible refine ah 55 _ _ rfl ?_))
   refine ak.go ?_;refine ae rfl 55 _ _ rfl (z+1) 0 (.agg (bC s t).toArray) (bC s t) rfl rfl rfl 55 [] la [] (by simpa using HMz.rb) rfl (by rw [show (bC s t).length=18 from ia (bS s)];rfl) (bv s t) (ky s t) ?_;intro wz hp;have HKz:Hid (Bk wz (z+1) 55 (bC s t)):=by show Bk _ _ _ _;have:=hp.bk;simpa using this
   have HBz:=aa (ag HMz.hb hp.only HMz.hb.size (by have:=HZ.out;omega));have HTz:Hid (ib wz w.heap.size t):=⟨bx HTO.p hp.only (aP HTO.p HMz.rb (by decide)),HTO.pk,HTO.r.put hp.only HMz.rb (by decide) (by decide),HTO.w.put hp.only HMz.rb (by decide) (by decide)⟩;clear hp;go_wp2_with fail
   refine bodyPost_ret (bp rfl _ _ (z+1) 55 (bC s t) _ rfl HKz.out Tryz.underlying55 rfl (bv s t)) rfl ?_;exact ⟨⟨t,rfl,HTz.out,HTS.out⟩,HBz.out⟩
  ·have HTT:Hid (∃t:eH,eT s.pc s.halt s.mem.length (dP s) i (.slice A6 PP.length C6) (.slice A9 ws1.length C9) (.slice none 0 0)=bC s t∧ib w10 w.heap.size t∧qz L s t):=⟨⟨i,A6,PP.length,C6,PP,A9,ws1.length,C9,ws1,none,0,0,[]⟩,rfl,⟨HO10.out,HPO.out,HX10.out,cH.nil _ _⟩,.inr ⟨by rw [HPC.out,HLN.out];exact hpN,by rw [HPC.out,Int.toNat_natCast];exact HI.out,by rw [HPC.out];exact HPE.symm,by rw [HRE.out.1];exact HE1.out,by rw [HRE.out.2,if_neg hw0];rfl⟩⟩;obtain ⟨t,ht,hto,hts⟩:=HTT.out;have HTO:=aa hto;have HTS:=aa hts;have HMz:=aa HM10.out;rw [ht] at HMz;clear hto hts HTT ht;go_wp2_with (first | (with_reducible refine aj rfl 55 _ rfl g9 rfl (bC s t) 55 HMz.out.stp _ Tryz.underlying55 rfl (bv s t) ?_) | (with_reducible refine ah 55 _ _ rfl ?_))
   refine ak.go ?_;refine ae rfl 55 _ _ rfl (z+1) 0 (.agg (bC s t).toArray) (bC s t) rfl rfl rfl 55 [] la [] (by simpa using HMz.rb) rfl (by rw [show (bC s t).length=18 from ia (bS s)];rfl) (bv s t) (ky s t) ?_;intro wz hp;have HKz:Hid (Bk wz (z+1) 55 (bC s t)):=by show Bk _ _ _ _;have:=hp.bk;simpa using this
   have HBz:=aa (ag HMz.hb hp.only HMz.hb.size (by have:=HZ.out;omega));have HTz:Hid (ib wz w.heap.size t):=⟨bx HTO.p hp.only (aP HTO.p HMz.rb (by decide)),HTO.pk,HTO.r.put hp.only HMz.rb (by decide) (by decide),HTO.w.put hp.only HMz.rb (by decide) (by decide)⟩;clear hp;go_wp2_with fail
   refine bodyPost_ret (bp rfl _ _ (z+1) 55 (bC s t) _ rfl HKz.out Tryz.underlying55 rfl (bv s t)) rfl ?_;exact ⟨⟨t,rfl,HTz.out,HTS.out⟩,HBz.out⟩
 ·have HTT:Hid (∃t:eH,eT s.pc s.halt s.mem.length (dP s) dZ (.slice none 0 0) (.slice none 0 0) (.slice none 0 0)=bC s t∧ib wc w.heap.size t∧qz L s t):=⟨⟨dZ,none,0,0,[],none,0,0,[],none,0,0,[]⟩,rfl,⟨yR _ _,(fun d hd=>by cases hd),cH.nil _ _,cH.nil _ _⟩,.inl ⟨by rw [HPC.out,HLN.out];omega,rfl,rfl,rfl,rfl⟩⟩;have HMc2:=HMc;obtain ⟨t,ht,hto,hts⟩:=HTT.out;have HTO:=aa hto;have HTS:=aa hts;have HMz:=aa HMc.out;rw [ht] at HMz;clear hto hts HTT ht;go_wp2_with (first | (with_reducible refine aj rfl 55 _ rfl g9 rfl (bC s t) 55 HMz.out.stp _ Tryz.underlying55 rfl (bv s t) ?_) | (with_reducible refine ah 55 _ _ rfl ?_))
  refine ak.go ?_;refine ae rfl 55 _ _ rfl (z+1) 0 (.agg (bC s t).toArray) (bC s t) rfl rfl rfl 55 [] la [] (by simpa using HMz.rb) rfl (by rw [show (bC s t).length=18 from ia (bS s)];rfl) (bv s t) (ky s t) ?_;intro wz hp;have HKz:Hid (Bk wz (z+1) 55 (bC s t)):=by show Bk _ _ _ _;have:=hp.bk;simpa using this
  have HBz:=aa (ag HMz.hb hp.only HMz.hb.size (by have:=HZ.out;omega));have HTz:Hid (ib wz w.heap.size t):=⟨bx HTO.p hp.only (aP HTO.p HMz.rb (by decide)),HTO.pk,HTO.r.put hp.only HMz.rb (by decide) (by decide),HTO.w.put hp.only HMz.rb (by decide) (by decide)⟩;clear hp;go_wp2_with fail
  refine bodyPost_ret (bp rfl _ _ (z+1) 55 (bC s t) _ rfl HKz.out Tryz.underlying55 rfl (bv s t)) rfl ?_;exact ⟨⟨t,rfl,HTz.out,HTS.out⟩,HBz.out⟩
end Go.Proofs.YtllbdpdnpaocnaaGreatDoor
