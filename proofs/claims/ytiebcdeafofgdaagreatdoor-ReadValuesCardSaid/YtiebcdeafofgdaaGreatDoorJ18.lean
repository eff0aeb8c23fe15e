/-
  Parts of the proof: Rrg1 Rrg2. By an AI agent.
-/
import Derived.Test.YtiebcdeafofgdaaGreatDoorJ12
import Derived.Test.YtiebcdeafofgdaaGreatDoorJ01
import Derived.Lib.Join
import Derived.Laws.Slices
set_option maxRecDepth 100000
set_option maxHeartbeats 8000000
namespace Go.Proofs.YtiebcdeafofgdaaGreatDoor
section
open Go.RowKit Go.Lib Go.Proofs
attribute [local go_sem ↓] Go.wp_at_zero Go.wp_at_succ
attribute [local go_sem] aG aH aI
structure pK (w:World) (g:Nat) (b off c:Nat) (l:List bE):Prop where
 box:w.cell? ⟨g,0,none⟩=some (.slice (some ⟨b,off,none⟩) l.length c)
 le:l.length≤c
 lt:b<w.heap.size
 cells:∀ (j:Nat) (u:Value),(l.flatMap mx)[j]? = some u→w.cell? ⟨b,off+j,none⟩=some u
theorem pK.below {w w':World} {g b off c:Nat} {l:List bE} (h:pK w g b off c l) (hb:Below w.heap.size w w'):pK w' g b off c l:=
 ⟨cell_kept hb h.box,h.le,Nat.lt_of_lt_of_le h.lt hb.size,fun j u hu=>cell_kept hb (h.cells j u hu)⟩
theorem pK.tok {w:World} {g b off c:Nat} {l:List bE} (h:pK w g b off c l) (i:Nat) (D:i<l.length) :
  w.cell? ⟨b,off+i * 3,none⟩=some (.int .i64 l[i].kind)∧w.cell? ⟨b,off+i * 3+1,none⟩=some (.string l[i].text)∧w.cell? ⟨b,off+i * 3+2,none⟩=some (.int .i64 l[i].pos):=by
 refine ⟨h.cells (i * 3) _ ?_,h.cells (i * 3+1) _ ?_,h.cells (i * 3+2) _ ?_⟩
 ·have:=iH eg l i 0 D (by omega);rw [Nat.add_zero] at this;rw [this];rfl
 ·rw [iH eg l i 1 D (by omega)];rfl
 ·rw [iH eg l i 2 D (by omega)];rfl
theorem pL (g b off c:Nat) (l:List bE) (n:Nat) (w:World) (h:pK w g b off c l) :
  Calls Tryz.prog 234 #[.int .i64 (n:Int),.pointer (some ⟨g,0,none⟩)] w fun e w'=>e=.returned (.bool (decide (n<l.length)&&((l.getD n ⟨0,⟨#[]⟩,0⟩).kind==1)))∧w=w':=by
 have hb:=h.box;by_cases D:n<l.length
 ·obtain ⟨N,M,J⟩:=h.tok n D;(have e:l.getD n ⟨0,⟨#[]⟩,0⟩=l[n]:=by rw [List.getD_eq_getElem?_getD,List.getElem?_eq_getElem D];rfl);rw [e,decide_eq_true D,Bool.true_and];(have I:(l.length:Int)>(n:Int):=by omega);(have U:(0:Int)≤(n:Int):=by omega);clear h e;generalize l[n]=t at *;cases O:(t.kind==1);all_goals (go_enter Tryz.func234,Tryz.ntmps234);(go_wp2_with fail);go_ret;exact ⟨rfl,rfl⟩
 ·(have I:¬ (l.length:Int)>(n:Int):=by omega);rw [decide_eq_false D,Bool.false_and];clear h;(go_enter Tryz.func234,Tryz.ntmps234);(go_wp2_with fail);go_ret;exact ⟨rfl,rfl⟩
theorem Am (l:List bE) (i:Nat) (I:i<l.length) (D:l[i].kind=5):cG l=(⟨#[]⟩:BA):=by unfold cG;rw [if_pos];rw [List.any_eq_true];exact ⟨l[i],List.getElem_mem I,by simp [D]⟩
theorem DO (r:List bE):∀ a:ByteArray,(r.foldl (fun a u=>a++(⟨#[32]⟩:BA)++u.text) a).data.toList=a.data.toList++Lib.joinTail [32] (r.map fun t=>t.text.data.toList):=by
 induction r with
 | nil=>intro a;simp [Lib.joinTail]
 | cons t r ih=>intro a;rw [List.foldl_cons,ih];simp [Lib.joinTail]
theorem Ao (t:bE) (r:List bE) (h:(t::r).any (fun t=>t.kind==5)=false):cG (t::r)=⟨(Lib.join (((t::r).map (·.text)).map (·.data.toList)) ((⟨#[32]⟩:BA):ByteArray).data.toList).toArray⟩:=by unfold cG;rw [if_neg (by rw [h];decide)];apply ByteArray.ext;apply Array.toList_inj.1;show (r.foldl (fun a u=>a++(⟨#[32]⟩:BA)++u.text) t.text).data.toList=_;rw [DO];simp [Lib.join_cons];rfl
theorem Lk:(Tryz.prog.info? 9).map (fun i=>(i.zero,i.size,i.bytes))=some (some (.string ⟨#[]⟩),1,16):=by kernel_rfl
theorem Fd:Tryz.prog.underlying 38=some (.slice (Tryz.prog.elem 38)):=by kernel_rfl
theorem Ig:Tryz.prog.elem 38=43:=by kernel_rfl
theorem Fe (w:World):(sizeOf (Tryz.prog.elem 38)).run Tryz.prog w=.ok 3 w:=by rw [Ig];exact Tryz.sizeOf43 w
theorem Ff (b off q c k:Nat) (I:k≤q) (D:q≤c) (W:World):(Instr.slice 38 (.slice (some ⟨b,off,none⟩) q c) none (some (.int .i64 (k:Int))) none).run Tryz.prog W=.ok (.slice (some ⟨b,off,none⟩) k c) W:=by rw [run_slice_h (P:=Tryz.prog) W 38 (some ⟨b,off,none⟩) q c Fd .i64 (k:Int) (by omega) (by omega),Fe];simp only [Result.andThen,sliced,Nat.zero_mul,Option.map_some,nD,Nat.add_zero,ite_self,Int.toNat_natCast,Nat.sub_zero]
def tg (B:Nat) (w:World) (v:Value) (l:List ByteArray):Prop:=w.ownsRow B 9 1 v l.length (l.map Value.string)
theorem tg.nil (B:Nat) (w:World):tg B w (.slice none 0 0) []:=World.ownsRow_nil _ _ _ _
theorem wW {ops:Array Oper} {rest:List Oper} {o:Oper} {a:Act} {Q:Exit→Act→World→Prop} (M:o.guard=none) (s x:Operand)
  (U:o.op=.call { callee:=.builtin .append,args:=#[s,x],argTypes:=#[95,95] })
  (B:Nat) (w1:World) (u:Value) (l:List ByteArray) (t:ByteArray) (hs:a.eval s=u) (S:Nat) (O:a.eval x=.slice (some ⟨S,0,none⟩) 1 1) (y:w1.heap.size=S)
  (N:tg B w1 u l) (z:B≤w1.heap.size) (hl:l.length≤1000000)
  (h:∀ v' w2,tg B w2 v' (l++[t])→Below B w1 w2→wpList Tryz.prog ops Q rest (a.put o.dst v') w2) :
  wpList Tryz.prog ops Q (o::rest) a (w1.alloc (.cells #[.string t] 9)):=by
 subst y;obtain ⟨i0,q,J,I,D⟩:=info_parts Lk;refine lV (w1.alloc (.cells #[.string t] 9)) M s x 95 U B 9 i0 _ 1 16 Tryz.underlying95 q J I D rfl (by omega) u l.length _ hs (World.ownsRow.alloc N _) (w1.heap.size+1) (some ⟨w1.heap.size,0,none⟩) 1 1 [.string t] O
  (sH (fr:=(0,0)) (t:=9) (heap_alloc_new w1 _) rfl (Nat.lt_succ_self _)) (by simp [Value.oneCell']) (by unfold maxLen;omega) (by omega) (by simp;omega) ?_
 intro v' w2 hown hg _;refine h v' w2 ?_ (((Below.refl B w1).alloc z _).grown hg (by simp;omega) (fun g hg=>(World.ownsRow.lt N g hg).1));unfold tg;rw [List.map_append,List.length_append];exact hown
theorem tg.less {B B':Nat} {w:World} {v:Value} {l:List ByteArray} (h:tg B w v l) (I:B'≤B):tg B' w v l:=by
 refine ⟨h.1,?_⟩;rcases h.2 with J | ⟨g,cap,cur,e,D,r⟩
 ·exact .inl J
 ·exact .inr ⟨g,cap,cur,e,Nat.le_trans I D,r⟩
theorem B7 (l:List ByteArray) (h:∀ t∈l,t.size≤1000000000) (D:l.length≤5):(Lib.join (l.map (·.data.toList)) [32]).length≤140737488355328:=by
 rcases l with _ | ⟨x,r⟩
 ·simp [Lib.join]
 ·rw [List.map_cons,Lib.join_length];have:∀ l:List ByteArray,(∀ t∈l,t.size≤1000000000)→Lib.lens (l.map (·.data.toList))≤l.length * 1000000000:=by
   intro l;induction l with
   | nil=>intro _;simp [Lib.lens]
   | cons y l ih=>intro h;have I:=ih fun t ht=>h t (List.mem_cons_of_mem _ ht);have J:=h y List.mem_cons_self;unfold Lib.lens at I ⊢;simp only [List.map_cons,List.sum_cons,List.length_cons];rw [show y.data.toList.length=y.size from rfl];omega
  have:=this (x::r) h;rw [List.map_cons] at this;simp at D ⊢;simp at this;omega
theorem uG (g b off c:Nat) (l:List bE) (n:Nat) (gl:3≤n) (gk:n≤5) (hl:3≤l.length) (gm:l.length≤1000000) (U:∀ t∈l,t.text.size≤1000000000) (w:World) (h:pK w g b off c l) :
  Calls Tryz.prog 232 #[.int .i64 (n:Int),.pointer (some ⟨g,0,none⟩)] w fun e w'=>e=.returned (.string (cG (l.take n)))∧Below w.heap.size w w':=by
 have HT:=hid h;have gt:=h.box;obtain ⟨m,hm,g2,g1,gn,y⟩:∃ m:Nat,min (n:Int) (l.length:Int)=(m:Int)∧3≤m∧m≤5∧m≤l.length∧l.take n=l.take m:=by
  by_cases I:n≤l.length
  ·exact ⟨n,by omega,gl,gk,I,rfl⟩
  ·exact ⟨l.length,by omega,hl,by omega,Nat.le_refl _,by rw [List.take_of_length_le (by omega),List.take_length]⟩
 rw [y];have gs:=Ff b off l.length c m gn h.le;have gi:=hid (fun i (hi:i<m) (M:(l[i]'(by omega)).kind=5)=>Am (l.take m) i (by rw [List.length_take];omega) (by rw [List.getElem_take];exact M));have gj:=hid (show (l.take m).any (fun t=>t.kind==5)=false→cG (l.take m)=⟨(Lib.join (((l.take m).map (·.text)).map (·.data.toList)) ((⟨#[32]⟩:BA):ByteArray).data.toList).toArray⟩ by
  intro I;cases ht:l.take m with
  | nil=>have:=congrArg List.length ht;rw [List.length_take,List.length_nil] at this;omega
  | cons t r=>exact Ao t r (by rw [←ht];exact I))
 have g0:=hid (B7 ((l.take m).map (·.text)) (by intro t ht;obtain ⟨x,I,rfl⟩:=List.mem_map.1 ht;exact U x (List.mem_of_mem_take I)) (by rw [List.length_map,List.length_take];omega));have gz:=hid (show ((l.take m).map (·.text)).length=m by rw [List.length_map,List.length_take];omega);clear h y U;(go_enter Tryz.func232,Tryz.ntmps232);(go_wp2_with fail);clear hm gs gt;go_loopg [4,14] m (fun gg u4 u14 wr=>∃ i:Nat,i≤m∧m-i≤gg∧u14=.int .i64 (i:Int)∧tg w.heap.size wr u4 ((l.take i).map (·.text))∧(l.take i).any (fun t=>t.kind==5)=false∧Below w.heap.size w wr)
 case atStart=>exact ⟨0,Nat.zero_le _,by omega,rfl,tg.nil _ _,rfl,Below.refl _ _⟩
 case round=>
  obtain ⟨i,hi,g3,rfl,hO,J,hB⟩:=hrel;have HO:=hid hO;have D:=hid J;clear hO J;by_cases gp:i<m
  ·(have z:(i:Int)<(m:Int):=by omega);(have h0:(0:Int)≤(i:Int):=by omega);(have N:i<l.length:=by omega);obtain ⟨t0,t1,t2⟩:=(HT.out.below hB).tok i N;have gv:=hid (show (l.take (i+1)).map (·.text)=(l.take i).map (·.text)++[l[i].text] by rw [List.take_succ_eq_append_getElem N,List.map_append];rfl);have gh:=hid (show (l.take (i+1)).any (fun t=>t.kind==5)=((l.take i).any (fun t=>t.kind==5)||(l[i].kind==5)) by rw [List.take_succ_eq_append_getElem N,List.any_append];simp);have HS:=hid (gi.out i gp);generalize l[i]=t at *;(have gq:((l.take i).map (·.text)).length≤1000000:=by rw [List.length_map,List.length_take];omega);generalize (l.take i).map (·.text)=xs at *;have O:=hB.alloc hB.size (.cells #[.int .i64 t.kind,.string t.text,.int .i64 t.pos] 43);have gy:=hid (show tg w.heap.size (wr.alloc (.cells #[.int .i64 t.kind,.string t.text,.int .i64 t.pos] 43)) u4 xs from World.ownsRow.alloc HO.out _);by_cases M:t.kind=5
   ·have HR:=hid (HS.out M);(have ga:(t.kind==5)=true:=by simp [M]);clear M HS;(go_wp2_with fail);go_ret;exact ⟨by rw [HR.out];rfl,O⟩
   ·(have ga:(t.kind==5)=false:=by simp [M]);have gw:=hid (show (l.take (i+1)).any (fun t=>t.kind==5)=false by rw [gh.out,D.out,ga];rfl);have q:=O.size;clear M HS gh D;go_wp2_with (at_builtin;refine wW rfl (.tmp 21) (.tmp 24) rfl w.heap.size _ _ _ _ rfl _ rfl (by simp) gy.out q gq ?_;intro v3 w3 hO3 hB3);have gx:=hid hO3;clear hO3;go_roundg (m-(i+1))
    case measure=>omega
    case rel=>exact ⟨i+1,by omega,by omega,by go_num,by rw [gv.out];exact gx.out,gw.out,O.trans hB3⟩
  ·(have z:¬ (i:Int)<(m:Int):=by omega);(have gr:i=m:=by omega);subst gr;have HR:=hid (gj.out D.out);clear D gj gi;have HX:=gz.out;generalize (l.take i).map (·.text)=xs at *;obtain ⟨gb,cp,rfl,g4,gd⟩:=World.ownsRow.form HO.out (by omega);have ge:xs.length≤cp:=by
    rcases HO.out.2 with ⟨e,_⟩ | ⟨g',cap',cur',e,_,_,hc,_⟩
    ·cases e
    ·injection e with _ _ e;omega
   have HJ:=hid (Any.strings_Join Tryz.laysJoin Tryz.joinX gb 0 cp xs (⟨#[32]⟩:BA) wr (fun j x I=>by have hj:j<xs.length:=(List.getElem?_eq_some_iff.1 I).1;rw [Nat.zero_add,World.ownsRow.cellAt HO.out j (by omega),List.getElem?_map,I];rfl) gd (by omega) ge g0.out);clear HX;(go_wp2_with fail);change Calls _ 233 _ _ _;refine HJ.out.mono ?_;rintro e w5 ⟨rfl,gu⟩;(go_wp2_with fail);go_ret;exact ⟨by rw [HR.out];rfl,hB.trans (gu.mono hB.size)⟩
theorem Ih (b off q c k:Nat) (toks:List bE) (D:toks.length=q) (M:k≤q) (J:q≤c):∃ off',(∀ W:World,(Instr.slice 38 (.slice (some ⟨b,off,none⟩) q c) (some (.int .i64 (k:Int))) none none).run Tryz.prog W=.ok (.slice (some ⟨b,off',none⟩) (q-k) (c-k)) W) ∧
  ∀ w:World,(∀ (j:Nat) (u:Value),(toks.flatMap mx)[j]? = some u→w.cell? ⟨b,off+j,none⟩=some u)→∀ (j:Nat) (u:Value),((toks.drop k).flatMap mx)[j]? = some u→w.cell? ⟨b,off'+j,none⟩=some u:=by
 refine ⟨if c=k then off else off+k * 3,fun W=>?_,fun w h j u hu=>?_⟩
 ·rw [run_slice_l (P:=Tryz.prog) W 38 (some ⟨b,off,none⟩) q c Fd .i64 (k:Int) (by omega) (by omega),Fe];simp only [Result.andThen,sliced,Int.toNat_natCast,Option.map_some,nD];split <;> rfl
 ·by_cases hc:c=k
  ·have:toks.drop k=[]:=List.drop_eq_nil_of_le (by omega);rw [this] at hu;simp at hu
  ·rw [if_neg hc];(have e:toks.flatMap mx=(toks.take k).flatMap mx++(toks.drop k).flatMap mx:=by rw [←List.flatMap_append,List.take_append_drop]);(have I:((toks.take k).flatMap mx).length=k * 3:=by rw [sG eg,List.length_take];congr 1;omega);have:=h (k * 3+j) u (by rw [e,List.getElem?_append_right (by omega),I,Nat.add_sub_cancel_left];exact hu)
   rwa [←Nat.add_assoc] at this
def Ll (E:bN) (s:St) (w:World) (r:Option (ByteArray × St)) (e:Ending) (w':World):Prop:=
 match r with
 | some (x,s')=>e=.returned (.tuple #[.string x,.bool true])∧ar E s' w w'
 | none=>e=.returned (.tuple #[.string (⟨#[]⟩:BA),.bool false])∧ar E s w w'
def th (E:bN):Prop:=∀ t∈E.c.toks,t.text.size≤1000000000
theorem Ap (c:Cx) (s:St) (D:aE c s (⟨#[114,97,110,103,101]⟩:BA)=false) (h:(c.toks.drop s.at_).length≤2∨((c.toks.drop s.at_).getD 0 ⟨0,⟨#[]⟩,0⟩).kind≠1):cv c s=none:=by
 unfold cv;rw [D];simp only [Bool.false_eq_true,if_false];split
 ·rename_i a b d r hl;rw [hl] at h;rcases h with h | h
  ·simp at h
  ·(have h:a.kind≠1:=by simpa using h);rw [if_neg (by simp [h]),if_neg (by simp [h])]
 ·rfl
theorem uu (c:Cx) (s:St) (D:aE c s (⟨#[114,97,110,103,101]⟩:BA)=false) {a b d:bE} {r:List bE} (I:c.toks.drop s.at_=a::b::d::r) (J:a.kind=1) :
  cv c s=if a.text≠(⟨#[95]⟩:BA)∧cG ((a::b::d::r).take 3)=a.text++(⟨#[32,58,61,32,114,97,110,103,101]⟩:BA) then some (a.text,{ s with at_:=s.at_+3 })
   else if d.kind=1∧d.text≠(⟨#[95]⟩:BA)∧cG ((a::b::d::r).take 5)=a.text++(⟨#[32,44,32]⟩:BA)++d.text++(⟨#[32,58,61,32,114,97,110,103,101]⟩:BA) then some (a.text++(⟨#[44]⟩:BA)++d.text,{ s with at_:=s.at_+5 }) else none:=by unfold cv;rw [D,I];simp only [Bool.false_eq_true,if_false,J,true_and];rfl
end
end Go.Proofs.YtiebcdeafofgdaaGreatDoor
