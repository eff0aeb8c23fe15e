/-
  Parts of the proof: Lpart Lquot Lcatch. By an AI agent.
-/
import Derived.Test.YtiebcdeafofgdaaGreatDoorJ24
import Derived.Test.YtiebcdeafofgdaaGreatDoorJ25
import Derived.Test.YtiebcdeafofgdaaGreatDoorJ22
import Derived.Test.YtiebcdeafofgdaaGreatDoorJ23
import Derived.Deep.RegionLaw
import Derived.Maps.OwnOps
import Derived.BigQuiet
import Derived.Defers
import Derived.Recover
set_option maxRecDepth 100000
set_option maxHeartbeats 8000000
namespace Go.Proofs.YtiebcdeafofgdaaGreatDoor
section
open Go.RowKit Go.Lib Go.Proofs
attribute [local go_sem ↓] Go.wp_at_zero Go.wp_at_succ
theorem B2 {B:Nat} {w wk wl:World} {b:Nat} (h:Below B w wk) (D:wk.grownBy wl (some b)) (hb:B≤b) (hs:B≤wk.heap.size):Below B w wl:=
 h.trans ⟨D.os,D.tape,D.output,D.size,fun k hk=>D.block k (by omega) (fun e=>by injection e with e;omega)⟩
def D9:DataW Unit:=BZ (.map []) CU
theorem lH (w:World):Calls Tryz.prog 194 #[] w fun e w'=>∃ b,e=.returned (.map (some b))∧w'.ownsMap Tryz.prog 5 (plainElem Tryz.prog 5) b 9 D9∧w.heap.size≤b∧Below w.heap.size w w':=by have I := @run_makeMap Tryz.prog;have D:=World.ownsMap_made (H:=Unit) w Tryz.prog 5 (plainElem Tryz.prog 5);have M:Below w.heap.size w (w.alloc (.map #[] 0)):=(Below.refl _ _).alloc (Nat.le_refl _) _;(go_enter Tryz.func194,Tryz.ntmps194);go_wp2_with (refine pI _ rfl (.tmp 1) _ _ rfl (by decide) (by decide) w.heap.size _ _ rfl (by assumption) (by decide) ?_;intro w1 hown1 hg1;have J:=B2 (w:=w) (by assumption) hg1 (Nat.le_refl _) (Below.size (by assumption));clear hg1);go_ret;exact ⟨_,rfl,by assumption,Nat.le_refl _,by assumption⟩
theorem I4 (c:Nat):D9.atKey (.int .u8 (c:Int)) (.lit (.int .u8 0))=.lit (.int .u8 (((ev c).getD 0:Nat):Int))∧Maps.has D9 (.int .u8 (c:Int))=(ev c).isSome:=by
 by_cases y:c=97
 ·subst y;exact ⟨rfl,rfl⟩
 by_cases q:c=98
 ·subst q;exact ⟨rfl,rfl⟩
 by_cases U:c=102
 ·subst U;exact ⟨rfl,rfl⟩
 by_cases O:c=110
 ·subst O;exact ⟨rfl,rfl⟩
 by_cases N:c=114
 ·subst N;exact ⟨rfl,rfl⟩
 by_cases M:c=116
 ·subst M;exact ⟨rfl,rfl⟩
 by_cases J:c=118
 ·subst J;exact ⟨rfl,rfl⟩
 by_cases I:c=92
 ·subst I;exact ⟨rfl,rfl⟩
 by_cases h9:c=34
 ·subst h9;exact ⟨rfl,rfl⟩
 (have hs:ev c=none:=by unfold ev;simp only [y,q,U,O,N,M,J,I,h9,if_false]);rw [hs];have D:∀ k:Int,(c:Int)≠k→(Lit.int .u8 (c:Int))≠.int .u8 k:=fun k h e=>h (by injection e);unfold D9 CU;simp only [BZ];constructor
 ·(repeat rw [Maps.atKey_put_other (D _ (by omega))]);rfl
 ·(repeat rw [Maps.has_put_other (D _ (by omega))]);rfl
theorem nS (b:Nat) (w:World) (I:w.ownsMap Tryz.prog 5 (plainElem Tryz.prog 5) b 9 D9) (c:Nat) (hc:c<256) :
  (Instr.lookup 156 (.map (some b)) (.int .u8 (c:Int)) true).run Tryz.prog w=.ok (.tuple #[.int .u8 (((ev c).getD 0:Nat):Int),.bool (ev c).isSome]) w:=by (have J:(Lit.int .u8 (c:Int)).wf=true:=by simp [Lit.wf,IntKind.min,IntKind.max,IntKind.signed,IntKind.bits];omega);have U:(zeroValue 5).run Tryz.prog w=.ok (.int .u8 0) w:=Tryz.zeroValue5 w;obtain ⟨v,ps,D,O⟩:=I.look_ok (Maps.int_keyed Tryz.underlying5) Tryz.underlying156 U (plainElem_int (H:=Unit) Tryz.underlying5 (by decide)) (Maps.keyOf_int_mk Tryz.underlying5 J);rw [(I4 c).1] at O;rw [(I4 c).2] at D;generalize (ev c).getD 0=vv at *;generalize (ev c).isSome=sb at *;obtain ⟨c',rfl,M,_⟩:=plainElem_int_inv Tryz.underlying5 O;have N:=congrArg Prod.fst M;simp only at N;simp only [DataW.lit.injEq,Lit.int.injEq,true_and] at N;subst N;exact D
theorem sZ (radix:Nat):∀ (l:List UInt8) (v x:Nat),fk radix l v=some x→x<(v+1) * radix ^ l.length
 | [],v,x,h=>by rw [fk] at h;injection h with h;simp;omega
 | c::r,v,x,h=>by
  rw [fk] at h;cases hd:da c.toNat with
  | none=>rw [hd] at h;cases h
  | some d=>
   rw [hd] at h;simp only at h;split at h
   ·rename_i D;have:=sZ radix r _ _ h;refine Nat.lt_of_lt_of_le this ?_;rw [List.length_cons,Nat.pow_succ,Nat.mul_comm (radix ^ r.length) radix,←Nat.mul_assoc];refine Nat.mul_le_mul_right _ ?_;rw [Nat.add_mul,Nat.one_mul];omega
   ·cases h
theorem nd {l:List UInt8} {n radix x m:Nat} (h:ct l n radix=some x) (D:radix ^ n≤m):x<m:=by
 unfold ct at h;split at h
 ·have:=sZ radix _ _ _ h;rw [List.length_take,Nat.min_eq_left (by assumption)] at this;omega
 ·cases h
theorem B3 {c x:Nat} (h:ev c=some x):x≤255:=by unfold ev at h;(repeat' split at h);all_goals first | (injection h with h;omega) | cases h
theorem CV (w7:World) (g7 c7:Nat) (b:Int) (D:0≤b) (hb:b≤255) (h:w7.cell? ⟨g7,0,none⟩=some (.int .u8 b)):(convert 27 9 (.slice (some ⟨g7,0,none⟩) 1 c7)).run Tryz.prog w7=.ok (.string ⟨#[UInt8.ofNat b.toNat]⟩) w7:=by refine run_convert_bytes_back (P:=Tryz.prog) w7 27 9 5 ⟨g7,0,none⟩ c7 [UInt8.ofNat b.toNat] Tryz.underlying27 Tryz.underlying5 Tryz.underlying9 (fun j hj=>?_);(have:j=0:=by simp at hj;omega);subst this;rw [show w7.cell? (Addr.add ⟨g7,0,none⟩ 0)=some (.int .u8 b) from h];simp;rw [Int.emod_eq_of_lt (by omega) (by omega)];omega
theorem lj (r:Int):Lib.validRune r=Utf8.valid r:=by unfold Lib.validRune Utf8.valid;rw [Bool.eq_iff_iff];simp;omega
def pb (c:UInt8) (r:List UInt8):Option (List UInt8 × Nat):=
 if c.toNat=120 then (ct r 2 16).map fun v=>([UInt8.ofNat v],3)
 else if c.toNat=117 then (ct r 4 16).bind fun v=>if Utf8.valid (v:Int)=true then some ((Utf8.encode (v:Int)).data.toList,5) else none
 else if c.toNat=85 then (ct r 8 16).bind fun v=>if Utf8.valid (v:Int)=true then some ((Utf8.encode (v:Int)).data.toList,9) else none
 else (ct (c::r) 3 8).bind fun v=>if v≤255 then some ([UInt8.ofNat v],3) else none
theorem ta (c:UInt8) (r:List UInt8) (h:ev c.toNat=none):iW (c::r)=pb c r:=by rw [iW,h];rfl
def E4 (w:World) (r:Option (List UInt8 × Nat)) (e:Ending) (w':World):Prop:=
 Below w.heap.size w w'∧match r with
 | some p=>e=.returned (.tuple #[.string ⟨p.1.toArray⟩,.int .i64 (p.2:Int)])
 | none=>e=bH
theorem E5 (s:ByteArray) (hs:s.size≤65536) (w:World):Calls Tryz.prog 145 #[.string s] w (E4 w (iW s.data.toList)):=by
 obtain ⟨R,hR⟩:∃ R,R=iW s.data.toList:=⟨_,rfl⟩;rw [←hR];have HR:=hid hR;clear hR;have gs:s.data.toList.length=s.size:=rfl;by_cases hn:s.size=0
 ·(have gv:s=⟨#[]⟩:=by have hl:s.data.toList=[]:=List.eq_nil_of_length_eq_zero (by omega);cases s;simp at hl;subst hl;rfl);subst gv;have HN:=hid (show R=none from HR.out);clear HR gs hn;(go_enter Tryz.func145,Tryz.ntmps145);(go_wp2_with fail);refine (cj _).mono ?_;rintro e w2 ⟨rfl,rfl⟩;unfold bH;refine ⟨rfl,?_⟩;rw [HN.out];exact ⟨Below.refl _ _,rfl⟩
 (have g0:s.toList.isEmpty=false:=by rw [aM];exact decide_eq_false (by rintro rfl;exact hn rfl));obtain ⟨c,rr,gq,gu,gp⟩:=fT s 0 (by omega);have gz:∀ W,(Instr.index 9 (.string s) (.int .i64 0)).run Tryz.prog W=.ok (.int .u8 (aa s 0:Int)) W:=fun W=>di s 0 (by omega) W;have gk:=df s 0;have gx:=hid (show s.data.toList=c::rr by rw [←gq,List.drop_zero]);have HC:=hid (show R=iW (c::rr) by rw [HR.out,←gq,List.drop_zero]);have ge:=hid gu;have ga:=hid (show (s.extract 1 s.size).data.toList=rr by rw [Lib.extract_data,←gp,List.take_of_length_le (by rw [gp,List.length_drop];omega)]);clear HR gq gu gp gs;generalize aa s 0=bb at *;(go_enter Tryz.func145,Tryz.ntmps145);(go_wp2_with fail);refine (cQ _).mono ?_;rintro e w2 ⟨rfl,rfl⟩;cases gj:ev bb with
 | some x=>
  have HS:=hid gj;clear gj;(go_wp2_with fail);go_region_law (first
   | (go_simp;(go_at_call 194);refine (lH _).mono ?_;rintro e w3 ⟨b,rfl,D,gb,I⟩;have M:=(Below.refl w.heap.size w).drew.trans I;have y:=M.size;have J:=nS b w3 D bb gk;rw [HS.out] at J;simp only [Option.getD_some,Option.isSome_some] at J;clear D I gb))
  all_goals have z:=hid (show R=some ([UInt8.ofNat x],1) by rw [HC.out,iW,ge.out,HS.out]);(have gh:(0:Int)≤(x:Int):=by omega);(have gg:(x:Int)≤255:=by have:=B3 HS.out;omega);have gt:=fun W g7 c7 h=>CV W g7 c7 (x:Int) gh gg h;clear HC ga J;(go_wp2_with fail);go_ret2;rw [z.out];exact ⟨M.alloc y _,rfl⟩
 | none=>
  have HS:=hid gj;have HP:=hid (show R=pb c rr by rw [HC.out,ta _ _ (by rw [ge.out];exact gj)]);have gd:=hid gx.out;(have gy:decide ((1:Int)≤(s.size:Int))=true:=by rw [decide_eq_true_iff];omega);clear gj HC;by_cases gl:bb=120
  ·have q:=hid (show R=(ct rr 2 16).map fun v=>([UInt8.ofNat v],3) by rw [HP.out,pb,ge.out,gl];rfl);(have c1:((bb:Int)==120)=true:=by rw [beq_iff_eq];omega);clear HP gd gl;(go_wp2_with fail);go_region_law (first
    | (go_simp;(go_at_call 194);refine (lH _).mono ?_;rintro e w3 ⟨b,rfl,D,gb,I⟩;have M:=(Below.refl w.heap.size w).drew.trans I;have y:=M.size;have J:=nS b w3 D bb gk;rw [HS.out] at J;simp only [Option.getD_none,Option.isSome_none] at J;clear D I gb))
   all_goals
    clear J;(go_wp2_with fail);refine (m8 _ 2 16 (by decide) (by decide) _).mono ?_;rw [ga.out];cases hd:ct rr 2 16 with
    | none=>have z:=hid (show R=none by rw [q.out,hd];rfl);rintro e w4 ⟨U,rfl⟩;unfold bH;refine ⟨rfl,?_⟩;rw [z.out];exact ⟨M.trans (U.mono y),rfl⟩
    | some v=>have hv:=nd (m:=256) hd (by decide);rw [hd] at q;clear hd;rintro e w4 ⟨U,rfl⟩;have N:=M.trans (U.mono y);have gi:=N.size;have z:=hid (show R=some ([UInt8.ofNat v],3) from q.out);have q4:IntKind.u8.wrap (v:Int)=(v:Int):=IntWalk.u8_in _ (by omega);(have gh:(0:Int)≤(v:Int):=by omega);(have gg:(v:Int)≤255:=by omega);have gt:=fun W g7 c7 h=>CV W g7 c7 (v:Int) gh gg h;clear ga q hv;(go_wp2_with fail);go_ret2;rw [z.out];exact ⟨N.alloc gi _,rfl⟩
  by_cases gm:bb=117
  ·have q:=hid (show R=(ct rr 4 16).bind fun v=>if Utf8.valid (v:Int)=true then some ((Utf8.encode (v:Int)).data.toList,5) else none by rw [HP.out,pb,ge.out,gm];rfl);(have c1:((bb:Int)==120)=false:=by rw [beq_eq_false_iff_ne];omega);(have c2:((bb:Int)==117)=true:=by rw [beq_iff_eq];omega);(have c3:((bb:Int)==85)=false:=by rw [beq_eq_false_iff_ne];omega);clear HP gd gm;(go_wp2_with fail);go_region_law (first
    | (go_simp;(go_at_call 194);refine (lH _).mono ?_;rintro e w3 ⟨b,rfl,D,gb,I⟩;have M:=(Below.refl w.heap.size w).drew.trans I;have y:=M.size;have J:=nS b w3 D bb gk;rw [HS.out] at J;simp only [Option.getD_none,Option.isSome_none] at J;clear D I gb))
   all_goals
    clear J;(go_wp2_with fail);refine (m8 _ 4 16 (by decide) (by decide) _).mono ?_;rw [ga.out];cases hd:ct rr 4 16 with
    | none=>have z:=hid (show R=none by rw [q.out,hd];rfl);rintro e w4 ⟨U,rfl⟩;unfold bH;refine ⟨rfl,?_⟩;rw [z.out];exact ⟨M.trans (U.mono y),rfl⟩
    | some v=>
     have hv:=nd (m:=65536) hd (by decide);rw [hd] at q;clear hd;rintro e w4 ⟨U,rfl⟩;have N:=M.trans (U.mono y);have gi:=N.size;by_cases gw:v≤1114111
     ·(have e0:decide ((v:Int)≤1114111)=true:=by rw [decide_eq_true_iff];omega);have q4:IntKind.i32.wrap (v:Int)=(v:Int):=IntWalk.i32_in _ (by omega);cases O:Utf8.valid (v:Int) with
      | true=>have z:=hid (show R=some ((Utf8.encode (v:Int)).data.toList,5) by rw [q.out,Option.bind_some,if_pos O]);clear ga q hv;(go_wp2_with fail);refine (iA (v:Int) _).mono ?_;rw [lj,O];rintro e w5 ⟨rfl,rfl⟩;(go_wp2_with fail);refine (cQ _).mono ?_;rintro e w6 ⟨rfl,rfl⟩;(go_wp2_with fail);go_ret2;rw [z.out];exact ⟨N,by generalize Utf8.encode (v:Int)=en;cases en;rfl⟩
      | false=>have z:=hid (show R=none by rw [q.out,Option.bind_some,if_neg (by rw [O];decide)]);clear ga q hv;(go_wp2_with fail);refine (iA (v:Int) _).mono ?_;rw [lj,O];rintro e w5 ⟨rfl,rfl⟩;(go_wp2_with fail);refine (cj _).mono ?_;rintro e w6 ⟨rfl,rfl⟩;unfold bH;refine ⟨rfl,?_⟩;rw [z.out];exact ⟨N,rfl⟩
     ·(have e0:decide ((v:Int)≤1114111)=false:=by rw [decide_eq_false_iff_not];omega);(have O:Utf8.valid (v:Int)=false:=by unfold Utf8.valid;simp;omega);have z:=hid (show R=none by rw [q.out,Option.bind_some,if_neg (by rw [O];decide)]);clear ga q hv O;(go_wp2_with fail);refine (cj _).mono ?_;rintro e w6 ⟨rfl,rfl⟩;unfold bH;refine ⟨rfl,?_⟩;rw [z.out];exact ⟨N,rfl⟩
  by_cases gr:bb=85
  ·have q:=hid (show R=(ct rr 8 16).bind fun v=>if Utf8.valid (v:Int)=true then some ((Utf8.encode (v:Int)).data.toList,9) else none by rw [HP.out,pb,ge.out,gr];rfl);(have c1:((bb:Int)==120)=false:=by rw [beq_eq_false_iff_ne];omega);(have c2:((bb:Int)==117)=false:=by rw [beq_eq_false_iff_ne];omega);(have c3:((bb:Int)==85)=true:=by rw [beq_iff_eq];omega);clear HP gd gr;(go_wp2_with fail);go_region_law (first
    | (go_simp;(go_at_call 194);refine (lH _).mono ?_;rintro e w3 ⟨b,rfl,D,gb,I⟩;have M:=(Below.refl w.heap.size w).drew.trans I;have y:=M.size;have J:=nS b w3 D bb gk;rw [HS.out] at J;simp only [Option.getD_none,Option.isSome_none] at J;clear D I gb))
   all_goals
    clear J;(go_wp2_with fail);refine (m8 _ 8 16 (by decide) (by decide) _).mono ?_;rw [ga.out];cases hd:ct rr 8 16 with
    | none=>have z:=hid (show R=none by rw [q.out,hd];rfl);rintro e w4 ⟨U,rfl⟩;unfold bH;refine ⟨rfl,?_⟩;rw [z.out];exact ⟨M.trans (U.mono y),rfl⟩
    | some v=>
     have hv:=nd (m:=4294967296) hd (by decide);rw [hd] at q;clear hd;rintro e w4 ⟨U,rfl⟩;have N:=M.trans (U.mono y);have gi:=N.size;by_cases gw:v≤1114111
     ·(have e0:decide ((v:Int)≤1114111)=true:=by rw [decide_eq_true_iff];omega);have q4:IntKind.i32.wrap (v:Int)=(v:Int):=IntWalk.i32_in _ (by omega);cases O:Utf8.valid (v:Int) with
      | true=>have z:=hid (show R=some ((Utf8.encode (v:Int)).data.toList,9) by rw [q.out,Option.bind_some,if_pos O]);clear ga q hv;(go_wp2_with fail);refine (iA (v:Int) _).mono ?_;rw [lj,O];rintro e w5 ⟨rfl,rfl⟩;(go_wp2_with fail);refine (cQ _).mono ?_;rintro e w6 ⟨rfl,rfl⟩;(go_wp2_with fail);go_ret2;rw [z.out];exact ⟨N,by generalize Utf8.encode (v:Int)=en;cases en;rfl⟩
      | false=>have z:=hid (show R=none by rw [q.out,Option.bind_some,if_neg (by rw [O];decide)]);clear ga q hv;(go_wp2_with fail);refine (iA (v:Int) _).mono ?_;rw [lj,O];rintro e w5 ⟨rfl,rfl⟩;(go_wp2_with fail);refine (cj _).mono ?_;rintro e w6 ⟨rfl,rfl⟩;unfold bH;refine ⟨rfl,?_⟩;rw [z.out];exact ⟨N,rfl⟩
     ·(have e0:decide ((v:Int)≤1114111)=false:=by rw [decide_eq_false_iff_not];omega);(have O:Utf8.valid (v:Int)=false:=by unfold Utf8.valid;simp;omega);have z:=hid (show R=none by rw [q.out,Option.bind_some,if_neg (by rw [O];decide)]);clear ga q hv O;(go_wp2_with fail);refine (cj _).mono ?_;rintro e w6 ⟨rfl,rfl⟩;unfold bH;refine ⟨rfl,?_⟩;rw [z.out];exact ⟨N,rfl⟩
  have q:=hid (show R=(ct (c::rr) 3 8).bind fun v=>if v≤255 then some ([UInt8.ofNat v],3) else none by rw [HP.out,pb,ge.out,if_neg gl,if_neg gm,if_neg gr]);(have c1:((bb:Int)==120)=false:=by rw [beq_eq_false_iff_ne];omega);(have c2:((bb:Int)==117)=false:=by rw [beq_eq_false_iff_ne];omega);(have c3:((bb:Int)==85)=false:=by rw [beq_eq_false_iff_ne];omega);clear HP;(go_wp2_with fail);go_region_law (first
   | (go_simp;(go_at_call 194);refine (lH _).mono ?_;rintro e w3 ⟨b,rfl,D,gb,I⟩;have M:=(Below.refl w.heap.size w).drew.trans I;have y:=M.size;have J:=nS b w3 D bb gk;rw [HS.out] at J;simp only [Option.getD_none,Option.isSome_none] at J;clear D I gb))
  all_goals
   clear J;(go_wp2_with fail);refine (m8 _ 3 8 (by decide) (by decide) _).mono ?_;rw [gd.out];cases hd:ct (c::rr) 3 8 with
   | none=>have z:=hid (show R=none by rw [q.out,hd];rfl);rintro e w4 ⟨U,rfl⟩;unfold bH;refine ⟨rfl,?_⟩;rw [z.out];exact ⟨M.trans (U.mono y),rfl⟩
   | some v=>
    have hv:=nd (m:=512) hd (by decide);rw [hd] at q;clear hd;rintro e w4 ⟨U,rfl⟩;have N:=M.trans (U.mono y);have gi:=N.size;by_cases gn:v≤255
    ·(have e0:decide ((v:Int)≤255)=true:=by rw [decide_eq_true_iff];omega);have z:=hid (show R=some ([UInt8.ofNat v],3) by rw [q.out,Option.bind_some,if_pos gn]);have q4:IntKind.u8.wrap (v:Int)=(v:Int):=IntWalk.u8_in _ (by omega);(have gh:(0:Int)≤(v:Int):=by omega);(have gg:(v:Int)≤255:=by omega);have gt:=fun W g7 c7 h=>CV W g7 c7 (v:Int) gh gg h;clear ga q hv gd;(go_wp2_with fail);refine (cQ _).mono ?_;rintro e w5 ⟨rfl,rfl⟩;(go_wp2_with fail);go_ret2;rw [z.out];exact ⟨N.alloc gi _,rfl⟩
    ·(have e0:decide ((v:Int)≤255)=false:=by rw [decide_eq_false_iff_not];omega);have z:=hid (show R=none by rw [q.out,Option.bind_some,if_neg gn]);clear ga q hv gd;(go_wp2_with fail);refine (cj _).mono ?_;rintro e w5 ⟨rfl,rfl⟩;unfold bH;refine ⟨rfl,?_⟩;rw [z.out];exact ⟨N,rfl⟩
theorem B4 (v:Int):(Utf8.encode v).data.toList.length≤4:=by unfold Utf8.encode;dsimp only;(repeat' split);all_goals exact Nat.le_of_ble_eq_true rfl
theorem l8 {l:List UInt8} {n radix x:Nat} (h:ct l n radix=some x):n≤l.length:=by
 unfold ct at h;split at h
 ·assumption
 ·cases h
theorem DN {l:List UInt8} {p:List UInt8 × Nat} (h:iW l=some p):p.1.length≤4∧1≤p.2∧p.2≤l.length:=by
 (have key:∀ (a:List UInt8) (n m:Nat),some (a,n)=some p→a.length≤4→1≤n→n≤m→p.1.length≤4∧1≤p.2∧p.2≤m:=by intro a n m h N M J;rw [←Option.some.inj h];exact ⟨N,M,J⟩);have O:=B4;cases l with
 | nil=>cases h
 | cons c r=>
  rw [List.length_cons];cases hs:ev c.toNat with
  | some v=>rw [iW,hs] at h;exact key _ _ _ h (Nat.le_of_ble_eq_true rfl) (Nat.le_refl _) (Nat.succ_le_succ (Nat.zero_le _))
  | none=>
   rw [ta c r hs,pb] at h;clear hs;generalize c.toNat=n at h;by_cases N:n=120
   ·rw [if_pos N] at h;obtain ⟨v,hd,h⟩:=Option.map_eq_some_iff.mp h;have I:=l8 hd;exact key _ _ _ (congrArg some h) (Nat.le_of_ble_eq_true rfl) (by omega) (by omega)
   ·rw [if_neg N] at h;by_cases M:n=117
    ·rw [if_pos M] at h;obtain ⟨v,hd,h⟩:=Option.bind_eq_some_iff.mp h;have I:=l8 hd;by_cases D:Utf8.valid (v:Int)=true
     ·rw [if_pos D] at h;exact key _ _ _ h (O _) (by omega) (by omega)
     ·rw [if_neg D] at h;cases h
    ·rw [if_neg M] at h;by_cases J:n=85
     ·rw [if_pos J] at h;obtain ⟨v,hd,h⟩:=Option.bind_eq_some_iff.mp h;have I:=l8 hd;by_cases D:Utf8.valid (v:Int)=true
      ·rw [if_pos D] at h;exact key _ _ _ h (O _) (by omega) (by omega)
      ·rw [if_neg D] at h;cases h
     ·rw [if_neg J] at h;obtain ⟨v,hd,h⟩:=Option.bind_eq_some_iff.mp h;have I:=l8 hd;rw [List.length_cons] at I;by_cases D:v≤255
      ·rw [if_pos D] at h;exact key _ _ _ h (Nat.le_of_ble_eq_true rfl) (by omega) (by omega)
      ·rw [if_neg D] at h;cases h
theorem fX:∀ (g g':Nat) (l:List UInt8),l.length<g→l.length<g'→dp g l=dp g' l
 | 0,_,_,h,_=>absurd h (Nat.not_lt_zero _)
 | _+1,0,_,_,h=>absurd h (Nat.not_lt_zero _)
 | g+1,g'+1,[],_,_=>by rw [dp,dp]
 | g+1,g'+1,c::r,h,h'=>by
  rw [dp,dp];simp only [List.length_cons] at h h';split
  ·cases D:iW r with
   | none=>rfl
   | some p=>simp only [Option.bind_some];rw [fX g g' (r.drop p.2) (by rw [List.length_drop];omega) (by rw [List.length_drop];omega)]
  ·split
   ·rfl
   ·rw [fX g g' r (by omega) (by omega)]
theorem G2.below {B b:Nat} {bs:List Value} {w w':World} (h:G2 B b bs w) (hb:Below w.heap.size w w'):G2 B b bs w':=by (have key:∀ p,Lib.BuilderAt 129 5 B b p bs w→Lib.BuilderAt 129 5 B b p bs w':=by rintro p ⟨M,v,J,D,I⟩;exact ⟨M,v,by rw [hb.block b (Lib.BuilderAt.lt ⟨M,v,J,D,I⟩)];exact J,rB D (fun g hg=>hb.block g (World.ownsRow.lt D g hg).2),I⟩);exact h.elim (fun h=>.inl (key _ h)) (fun h=>.inr (key _ h))
def Id (w:World) (r:Option (List UInt8)) (e:Ending) (w':World):Prop:=
 Below w.heap.size w w'∧match r with
 | some l=>e=.returned (.string ⟨l.toArray⟩)
 | none=>e=bH
def dH (bs:List UInt8) (l:List UInt8):Option (List UInt8):=(dp (l.length+1) l).map fun x=>bs++x
theorem Ai (bs:List UInt8):dH bs []=some bs:=by show (some []).map _=_;simp
theorem wU (bs:List UInt8) (c:UInt8) (r:List UInt8) (hc:c.toNat=92):dH bs (c::r)=(iW r).bind fun p=>dH (bs++p.1) (r.drop p.2):=by
 unfold dH;rw [dp,if_pos hc];cases D:iW r with
 | none=>rfl
 | some p=>simp only [Option.bind_some,Option.map_map];rw [fX ((c::r).length) ((r.drop p.2).length+1) (r.drop p.2) (by simp only [List.length_cons,List.length_drop];omega) (by omega)];congr 1;funext x;simp
theorem Aj (bs:List UInt8) (c:UInt8) (r:List UInt8) (hc:¬ c.toNat=92) (h:c.toNat=34∨c.toNat=10):dH bs (c::r)=none:=by unfold dH;rw [dp,if_neg hc,if_pos h];rfl
theorem wV (bs:List UInt8) (c:UInt8) (r:List UInt8) (hc:¬ c.toNat=92) (h:¬ (c.toNat=34∨c.toNat=10)):dH bs (c::r)=dH (bs++[c]) r:=by unfold dH;rw [dp,if_neg hc,if_neg h,Option.map_map];rw [fX ((c::r).length) (r.length+1) r (by simp only [List.length_cons];omega) (by omega)];congr 1;funext x;simp
theorem pc (s:ByteArray) (k:Nat):(s.extract k s.size).data.toList=s.data.toList.drop k:=by rw [Lib.extract_data];have:s.data.toList.length=s.size:=rfl;rw [List.take_of_length_le (by rw [List.length_drop];omega)]
theorem ut (s:ByteArray) (hs:s.size≤65536) (w:World):Calls Tryz.prog 114 #[.string s] w (Id w (dH [] s.data.toList)):=by
 obtain ⟨R,hR⟩:∃ R,R=dH [] s.data.toList:=⟨_,rfl⟩;rw [←hR];have HR:=hid hR.symm;clear hR;(go_enter Tryz.func114,Tryz.ntmps114);(go_wp2_with fail);have J:=Lib.fresh_isBuilder 129 5 w;have gh:Below w.heap.size w (w.alloc (.cells #[.pointer none,.slice none 0 0] 129)):=(Below.refl _ w).alloc (Nat.le_refl _) _;generalize w.alloc (.cells #[.pointer none,.slice none 0 0] 129)=w1 at *;go_loopg [0,4,5,6,7,8] s.size (fun g u0 _ _ _ _ _ wr=>∃ (t:ByteArray) (bs:List UInt8),u0=.string t∧t.size≤g∧t.size≤s.size∧bs.length+4 * t.size≤4 * s.size∧G2 w.heap.size w.heap.size (Lib.byteCells bs) wr∧Below w.heap.size w wr∧dH bs t.data.toList=R)
 case atStart=>exact ⟨s,[],rfl,Nat.le_refl _,Nat.le_refl _,by simp,J,gh,HR.out⟩
 case round=>
  clear J gh HR;obtain ⟨t,bs,rfl,hg,gt,gw,J,hB,hq⟩:=hrel;have q:=hid hq;have U:=hB.size;clear hq;by_cases y:t=⟨#[]⟩
  ·subst y;have h:=hid (show R=some bs from q.out.symm.trans (Ai bs));clear q;(go_wp2_with fail);refine (y5 _ _ bs _ J U).mono ?_;rintro e w4 ⟨rfl,D⟩;(go_wp2_with fail);go_ret;rw [h.out];exact ⟨hB.trans D,rfl⟩
  ·(have gv:t.toList.isEmpty=false:=by rw [aM];exact decide_eq_false y);(have hn:0<t.size:=by refine Nat.pos_of_ne_zero fun h0=>y ?_;have hl:t.data.toList=[]:=List.eq_nil_of_length_eq_zero (by have:t.data.toList.length=t.size:=rfl;omega);cases t;simp at hl;subst hl;rfl);obtain ⟨c,rr,gb,gd,gk⟩:=fT t 0 hn;have gs:∀ W,(Instr.index 9 (.string t) (.int .i64 0)).run Tryz.prog W=.ok (.int .u8 (aa t 0:Int)) W:=fun W=>di t 0 hn W;have gx:=df t 0;have I:=hid (show t.data.toList=c::rr by rw [←gb,List.drop_zero]);have gp:=hid (show (t.extract 1 t.size).data.toList=rr by rw [pc,I.out];rfl);have N:=hid gd;have gn:=hid (show t.size=rr.length+1 by have h1:t.data.toList.length=t.size:=rfl;rw [I.out,List.length_cons] at h1;omega);(have p1:(1:Int)≤(t.size:Int):=by omega);(have ge:(t.extract 1 t.size).size≤65536:=by rw [ByteArray.size_extract];omega);(have gm:(t.extract 1 t.size).size=t.size-1:=by rw [ByteArray.size_extract];omega);clear gb gd gk;generalize aa t 0=bb at *;by_cases M:bb=92
   ·(have c1:((bb:Int)==92)=true:=by rw [beq_iff_eq];omega);have HD:=hid (show (iW rr).bind (fun p=>dH (bs++p.1) (rr.drop p.2))=R by rw [←q.out,I.out,wU _ _ _ (by rw [N.out];exact M)]);have gq:=hid ge;clear q M ge gm;(go_wp2_with fail);refine (E5 _ gq.out _).mono ?_;rw [gp.out];cases hp:iW rr with
    | none=>have h:=hid (show R=none by rw [←HD.out,hp];rfl);rintro e w4 ⟨D,rfl⟩;unfold bH;refine ⟨rfl,?_⟩;rw [h.out];exact ⟨hB.trans (D.mono U),rfl⟩
    | some p=>
     have hl:=DN hp;have gr:=hid (show dH (bs++p.1) (rr.drop p.2)=R by rw [←HD.out,hp];rfl);clear HD;rintro e w4 ⟨D,rfl⟩;have gl:=J.below D;have gg:=hB.trans (D.mono U);have gj:=gg.size;obtain ⟨ps,n⟩:=p;simp only at hl;(have gu:n+1≤t.size:=by have:=gn.out;omega);have q5:IntKind.i64.wrap ((n:Int)+1)=(n:Int)+1:=IntWalk.i64_in _ (by omega);(have p2:(0:Int)≤(n:Int)+1:=by omega);(have p3:(n:Int)+1≤(t.size:Int):=by omega);(have gy:((n:Int)+1).toNat=n+1:=by omega);have HP:=hid hp;clear hp D;(go_wp2_with fail);refine (sk _ _ _ ⟨ps.toArray⟩ _ gl (by show (Lib.byteCells bs).length+ps.toArray.size≤_;simp [Lib.byteCells];omega) gj).mono ?_;rintro e w5 ⟨⟨v5,rfl⟩,z,ga⟩;(go_wp2_with fail);go_roundg (t.size-(n+1))
     case measure=>omega
     case rel=>exact ⟨t.extract (n+1) t.size,bs++ps,rfl,by rw [ByteArray.size_extract];omega,by rw [ByteArray.size_extract];omega,by rw [ByteArray.size_extract,List.length_append];omega,by (have:Lib.byteCells (bs++ps)=Lib.byteCells bs++Lib.strCells ⟨ps.toArray⟩:=by simp [Lib.byteCells,Lib.strCells]);rw [this];exact z,gg.trans ga,by rw [pc,I.out];exact gr.out⟩
   ·(have c1:((bb:Int)==92)=false:=by rw [beq_eq_false_iff_ne];omega);by_cases O:bb=34∨bb=10
    ·have h:=hid (show R=none by rw [←q.out,I.out,Aj _ _ _ (by rw [N.out];exact M) (by rw [N.out];exact O)]);clear q M;by_cases gi:bb=34
     ·(have c2:((bb:Int) != 34)=false:=by rw [bne_eq_false_iff_eq];omega);clear gi O;(go_wp2_with fail);refine (cj _).mono ?_;rintro e w6 ⟨rfl,rfl⟩;unfold bH;refine ⟨rfl,?_⟩;rw [h.out];exact ⟨hB,rfl⟩
     ·(have c2:((bb:Int) != 34)=true:=by rw [bne_iff_ne];omega);(have c3:((bb:Int) != 10)=false:=by rw [bne_eq_false_iff_eq];omega);clear gi O;(go_wp2_with fail);refine (cj _).mono ?_;rintro e w6 ⟨rfl,rfl⟩;unfold bH;refine ⟨rfl,?_⟩;rw [h.out];exact ⟨hB,rfl⟩
    ·have h:=hid (show dH (bs++[c]) rr=R by rw [←q.out,I.out,wV _ _ _ (by rw [N.out];exact M) (by rw [N.out];exact O)]);(have c2:((bb:Int) != 34)=true:=by rw [bne_iff_ne];omega);(have c3:((bb:Int) != 10)=true:=by rw [bne_iff_ne];omega);clear q M O;(go_wp2_with fail);refine (cQ _).mono ?_;rintro e w6 ⟨rfl,rfl⟩;(go_wp2_with fail);refine (uq _ _ _ (bb:Int) _ J (by simp [Lib.byteCells];omega) U).mono ?_;rintro e w5 ⟨rfl,z,ga⟩;(go_wp2_with fail);go_roundg (t.size-1)
     case measure=>omega
     case rel=>exact ⟨t.extract 1 t.size,bs++[c],rfl,by rw [ByteArray.size_extract];omega,by rw [ByteArray.size_extract];omega,by rw [ByteArray.size_extract,List.length_append,List.length_singleton];omega,by (have:Lib.byteCells (bs++[c])=Lib.byteCells bs++[.int .u8 (bb:Int)]:=by simp [Lib.byteCells,N.out]);rw [this];exact z,hB.trans ga,by rw [pc,I.out];exact h.out⟩
theorem Li (v:Value) (w:World):(Instr.typeAssert (.iface 112 v) 20 112 true).run Tryz.prog w=.ok (.tuple #[v,.bool true]) w:=by kernel_rfl
attribute [local go_sem] Li
theorem oB (p q:Addr) (w:World) :
  CallsD Tryz.prog 112 #[.pointer (some p),.pointer (some q)] .returning w fun e u' w'=>e=.returned (.tuple #[])∧u'=.returning∧w'=w:=by
 refine callsD_of_wpS Tryz.func112 rfl fun c₀ cs D=>?_;apply wpS_seq;apply wpS_region;simp [wpOpsS,go_sem,recoverD,D,Tryz.ntmps112,Exit.thenS];apply wpS_seq;apply wpS_region;simp [wpOpsS,go_sem,Exit.thenS];refine wpS_cond (t:=false) (by simp [Act.eval,Array.replicate]) ?_;simp only [Bool.false_eq_true,if_false];refine wpS_of_wp (wp_skip ?_);cases c₀
 simp_all [bodyPostS,results,Tryz.results112]
theorem lI (B P Q:Nat) (vP vQ:Value) (w:World) (O:aj w P 9 #[vP]) (y:aj w Q 29 #[vQ]) (h:B≤P) (U:B≤Q) (J:P≠Q) :
  CallsD Tryz.prog 112 #[.pointer (some ⟨P,0,none⟩),.pointer (some ⟨Q,0,none⟩)] (.panicking [{ v:=.iface 112 (.agg #[]),recovered:=false }]) w
   fun e u' w'=>e=.returned (.tuple #[])∧u'=.panicking [{ v:=.iface 112 (.agg #[]),recovered:=true }] ∧
    aj w' P 9 #[.string ⟨#[]⟩]∧aj w' Q 29 #[.int .i64 4]∧Below B w w':=by refine callsD_of_wpS Tryz.func112 rfl fun c₀ cs z=>?_;apply wpS_seq;apply wpS_region;simp [wpOpsS,go_sem,recoverD,z,Tryz.ntmps112,Exit.thenS];apply wpS_seq;apply wpS_region;simp [wpOpsS,go_sem,Exit.thenS];refine wpS_cond (t:=true) (by simp [Act.eval,Array.replicate]) ?_;simp only [if_true];refine wpS_of_wp ?_;change Code.wp _ _ _ { tmps:=#[.pointer (some ⟨P,0,none⟩),.pointer (some ⟨Q,0,none⟩),.iface 112 (.agg #[]),undef,undef,.iface 112 (.agg #[]),.iface 112 (.agg #[]),.bool true,undef,undef,undef,undef,undef,undef,undef,undef],defers:=[] } _;have I:=O.alloc (.cells #[] 112);have D:=y.alloc (.cells #[] 112);have q:Below B w (w.alloc (.cells #[] 112)):=(Below.refl _ _).alloc (by have:=O.lt;omega) _;have gb:=O.lt;have ga:=y.lt;(go_upto_region 5 with fail);generalize w.alloc (.cells #[] 112)=w1 at *;have x0:=aJ I;have x1:=aJ D;have f0:=I.frozen 0;have f1:=D.frozen 0;(go_wp2_with fail);all_goals have N:aj ((w1.setCell ⟨P,0,none⟩ (.string ⟨#[]⟩)).setCell ⟨Q,0,none⟩ (.int .i64 4)) P 9 #[.string ⟨#[]⟩]:=(show aj (w1.setCell ⟨P,0,none⟩ (.string ⟨#[]⟩)) P 9 #[.string ⟨#[]⟩] by simpa using I.set_ 0 (.string ⟨#[]⟩)).far (p:=⟨Q,0,none⟩) J (.int .i64 4);(have M:aj ((w1.setCell ⟨P,0,none⟩ (.string ⟨#[]⟩)).setCell ⟨Q,0,none⟩ (.int .i64 4)) Q 29 #[.int .i64 4]:=by simpa using (D.far (p:=⟨P,0,none⟩) J.symm (.string ⟨#[]⟩)).set_ 0 (.int .i64 4));refine ⟨rfl,_,rfl,.tuple #[],?_,rfl,rfl,N,M,((q.setCell (p:=⟨P,0,none⟩) h (.string ⟨#[]⟩)).setCell (p:=⟨Q,0,none⟩) U (.int .i64 4))⟩;simp [results,Tryz.results112,go_sem]
end
end Go.Proofs.YtiebcdeafofgdaaGreatDoor
