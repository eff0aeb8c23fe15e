/-
  Parts of the proof: Pval Pvalues. By an AI agent.
-/
import Derived.Test.YtiebcdeafofgdaaGreatDoorJ50
import Derived.Test.YtiebcdeafofgdaaGreatDoorJ44
import Derived.Test.YtiebcdeafofgdaaGreatDoorJ47
set_option maxRecDepth 100000
set_option maxHeartbeats 8000000
namespace Go.Proofs.YtiebcdeafofgdaaGreatDoor
section
open Go.Lib
def Dq:List UInt8:=32::bytes nM++[32]
def L8:List UInt8:=32::bytes nN++[32]
def L9:List UInt8:=32::bytes sm++[32]
def GJ (a b:UInt8):Bool:=(a==60&&b==60)||((a==62&&b==62)||((a==38&&b==94)||(a==46&&b==46)))
theorem GK {a b c:UInt8} (h:GJ a b=false):contains Dq (32::[a,b,c]++[32])=false:=by
 cases hc:contains Dq (32::[a,b,c]++[32]) with
 | false=>rfl
 | true=>exfalso;obtain ⟨k,D,M⟩:=nj hc;have J:=iE M;(have D:k<18:=by rw [tK.1] at D;omega);(have key:(List.range 18).all (fun k=>let w:=(Dq.drop k).take 5;!(decide (w.length=5)&&(w.getD 0 0==32&&w.getD 4 0==32))||GJ (w.getD 1 0) (w.getD 2 0))=true:=by decide +kernel);have I:=List.all_eq_true.1 key k (List.mem_range.2 D);rw [show (Dq.drop k).take 5=[32,a,b,c,32] from J] at I;simp [h] at I
def Mj (a b:UInt8):Bool := !(GJ a b)&&(!(contains L8 [32,a,b,32])&&contains L9 [32,a,32])
theorem EB {a b:UInt8} (h:Mj a b=true) (r:List UInt8):ri (a::b::r)=1:=by
 unfold Mj at h;simp only [Bool.and_eq_true,Bool.not_eq_true'] at h;obtain ⟨M,J,I⟩:=h;unfold ri;rw [if_neg,if_neg,if_pos]
 ·exact ⟨by simp,I⟩
 ·rintro ⟨-,h⟩;rw [show contains (32::bytes nN++[32]) (32::(a::b::r).take 2++[32])=false from J] at h;cases h
 ·rintro ⟨D,h⟩;cases r with
  | nil=>simp at D
  | cons c r=>rw [show contains (32::bytes nM++[32]) (32::(a::b::c::r).take 3++[32])=false from GK M] at h;cases h
theorem oX.one {a b:UInt8} {r:List UInt8} (h:Mj a b=true) (J:CN [a]=true) (I:a=47→b≠47∧b≠42):oX (b::r) 6 [a]:=by
 refine .sign J (EB h r) ?_ ?_
 ·show ([47,47]:List UInt8).isPrefixOf (a::b::r)=false;by_cases D:a=47
  ·simp [List.isPrefixOf,Ne.symm (I D).1]
  ·simp [List.isPrefixOf,Ne.symm D]
 ·show ([47,42]:List UInt8).isPrefixOf (a::b::r)=false;by_cases D:a=47
  ·simp [List.isPrefixOf,Ne.symm (I D).2]
  ·simp [List.isPrefixOf,Ne.symm D]
theorem oX.wordK {k:Int} {x r:List UInt8} (I:k=ci (La x)+1) (h:GD x=true) (D:Bz r=true):oX r k x:=by subst I;exact .word h D
def uy:List It:=[.tok 2 [112,97,99,107,97,103,101],.gap 32,.tok 1 [112],.nl,.tok 2 [118,97,114],.gap 32,.tok 1 [120],.gap 32,.tok 6 [61],.gap 32]
def pm (s:ByteArray):ByteArray:=⟨#[112,97,99,107,97,103,101,32,112,10,118,97,114,32,120,32,61,32]⟩++s++⟨#[10]⟩
theorem rO (s:ByteArray):bytes (pm s)=Dk uy++(bytes s++[10]):=by unfold pm;rw [bS,bS,List.append_assoc];rfl
theorem rt (s:ByteArray):(pm s).size=s.size+19:=by have h:=congrArg List.length (rO s);rw [bz,List.length_append,List.length_append,bz] at h;rw [h,show (Dk uy).length=18 from rfl];show 18+(s.size+1)=_;omega
theorem LQ (r:List UInt8):BB false uy r:=
 ⟨.wordK (by decide +kernel) (by decide +kernel) rfl,.inl rfl,.wordK (by decide +kernel) (by decide +kernel) rfl,by decide +kernel,.wordK (by decide +kernel) (by decide +kernel) rfl,.inl rfl,.wordK (by decide +kernel) (by decide +kernel) rfl,.inl rfl,.one (by decide +kernel) (by decide +kernel) (fun h=>absurd h (by decide)),.inl rfl,trivial⟩
def ey:List bE:=ub 0 uy
theorem ue (s:ByteArray):nr s (pm s) 18:=⟨by decide,[10],⟨⟨[],rfl⟩,by decide,by decide +kernel⟩,by rw [rO];rfl⟩
theorem IX {t:ByteArray} {a:UInt8} {r:List UInt8} (h:bytes t=a::r) (D:a.toNat≠239):hasPrefix (bytes t) [239,187,191]=false:=by rw [h];exact fE D
theorem Dr {s:ByteArray} (h9:0<s.size→aa s 0≠239):hasPrefix (bytes s) [239,187,191]=false:=by
 cases D:bytes s with
 | nil=>rfl
 | cons a r=>have I:=h9 (by rw [←bz,D];simp);rw [dy,D] at I;exact fE I
theorem GL {s:ByteArray} {L:List bE} (hs:s.size≤1000) (h9:0<s.size→aa s 0≠239) (h:cr s=.toks L):cr (pm s)=.toks (ey++L.map (ii ((18:Nat):Int))):=by
 have hW:=ue s;have hb:=rO s;have J:=rt s;(have D:bL ey=false:=by decide +kernel);generalize pm s=t at *;have hf:hasPrefix (bytes t) [239,187,191]=false:=IX hb (by decide);(have O:∀ i,aa t i=((Dk uy++(bytes s++[10])).getD i 0).toNat:=fun i=>by rw [dy,hb]);have y:dE t=none∧dE s=none:=by
  have I:dE s=none:=by
   unfold cr at h;split at h
   ·cases h
   ·cases hq:dE s with
    | none=>rfl
    | some p=>rw [hq] at h;cases h
  refine ⟨?_,I⟩;(have N:∀ i,i<18→0<aa t i∧aa t i<128:=by intro i z;rw [O,List.getD_eq_getElem?_getD,List.getElem?_append_left (by exact z)];(have key:∀ (i:Fin 18),0<(((Dk uy)[i.val]?).getD 0).toNat∧(((Dk uy)[i.val]?).getD 0).toNat<128:=by decide +kernel);exact key ⟨i,z⟩);unfold dE;rw [show t.size=s.size+1+18 by omega,oh t 18 (s.size+1) 0 (by omega) (fun j _ hj=>N j (by omega))];obtain ⟨h1,U⟩:=oe hW h9 s.size 0 (Nat.zero_le _) (by omega);obtain ⟨g'',h3,h4⟩:=U I (s.size+1) (by omega);rw [h4];refine og t g'' (s.size+18) fun j hj hl=>?_;(obtain rfl:j=s.size+18:=by omega);rw [hW.end_];decide
 unfold cr at h ⊢;rw [if_neg (by omega),y.2] at h;rw [if_neg (by omega),y.1];have h:nQ (aU s (s.size+1) 0 [])=.toks L:=h;show nQ (aU t (t.size+1) 0 [])=_;rw [show t.size+1=s.size+10+uy.length by rw [J];rfl,rl hf uy false 0 [] (bytes s++[10]) (by rw [List.drop_zero];exact hb) rfl (LQ _),show 0+(Dk uy).length=0+18 from rfl];obtain ⟨h1,U⟩:=nw hW (base:=ey) D (by omega) (Dr h9) (s.size+1) 0 [] (Nat.zero_le _) (by omega) ⟨Nat.le_refl _,fun t ht=>by simp at ht⟩;cases M:aU s (s.size+1) 0 [] with
 | bad p=>rw [M] at h;cases h
 | ok L'=>
  rw [M] at h;injection h with h;subst h;obtain ⟨q,rfl,h3⟩:=U L' M;obtain ⟨g'',h4,h5⟩:=h3 (s.size+10) (by omega);rw [List.map_nil,List.append_nil] at h5;show nQ (aU t (s.size+10) (0+18) ([]++ey))=_;rw [List.nil_append,h5];obtain ⟨g,rfl⟩:∃ g,g''=g+2:=⟨g''-2,by omega⟩;(have s0:bC t (s.size+18) (ey++q.map (ii ((18:Nat):Int)))=.go (s.size+18+1) (ey++(cC q (s.size:Int)).map (ii ((18:Nat):Int))):=by rw [mK (fun h=>by omega) hW.end_,oL D _ _ (s.size:Int) _ (by omega)]);rw [eq (by omega) s0,aU,if_neg (by omega),t7]
  ·rfl
  ·rw [nu D];exact mv _ _
theorem GM {L:List bE} (d:Int) (h:eW L=none):eW (ey++L.map (ii d))=none:=by
 have D:L.find? iV=none∧L.find? iK=none:=by
  unfold eW at h;cases I:L.find? iV with
  | some t=>rw [I] at h;cases h
  | none=>
   refine ⟨rfl,?_⟩;cases J:L.find? iK with
   | some t=>rw [I,J] at h;cases h
   | none=>rfl
 (have N:ey.find? iV=none:=by decide +kernel);(have M:ey.find? iK=none:=by decide +kernel);unfold eW;rw [List.find?_append,List.find?_append,N,M,rj d (Dh d),rj d (Di d),D.1,D.2];rfl
theorem wK {c:Cx} {s:St} {x:ByteArray} (h:aE c s x=true):need x c s=.ok () (adv s):=by unfold need;rw [if_pos h]
theorem wL {c:Cx} {s:St} (h:(am c s.at_).kind=1):bQ c s=.ok (am c s.at_).text (adv s):=by unfold bQ;rw [if_pos h]
theorem GN (F:eB) (g:Nat) (hg:F.g=g+2) (M:List bE) (z:Int) (n':Nd) (D:St) (he:F.expr ⟨ey++M,z⟩ ⟨6,false,-1⟩=.ok n' D) (h1:aE ⟨ey++M,z⟩ D (⟨#[10]⟩:BA)=true) (h2:D.at_+1=(ey++M).length) :
  cY F ⟨ey++M,z⟩ ⟨0,false,-1⟩=.ok (.mk 1 (⟨#[112]⟩:BA) [.mk 5 (⟨#[120]⟩:BA) [bJ,n'] 10] 0) (adv D):=by (have i0:aE ⟨ey++M,z⟩ ⟨0,false,-1⟩ (⟨#[112,97,99,107,97,103,101]⟩:BA)=true:=by show yJ ⟨2,(⟨#[112,97,99,107,97,103,101]⟩:BA),0⟩ (⟨#[112,97,99,107,97,103,101]⟩:BA)=true;decide +kernel);have q:(am ⟨ey++M,z⟩ (adv ⟨0,false,-1⟩).at_).kind=1:=rfl;(have h:db ⟨ey++M,z⟩ (adv (adv ⟨0,false,-1⟩))=true:=by show (yJ ⟨6,(⟨#[10]⟩:BA),9⟩ (⟨#[59]⟩:BA)||yJ ⟨6,(⟨#[10]⟩:BA),9⟩ (⟨#[10]⟩:BA))=true;decide +kernel);(have I:aE ⟨ey++M,z⟩ (adv (adv (adv ⟨0,false,-1⟩))) (⟨#[118,97,114]⟩:BA)=true:=by show yJ ⟨2,(⟨#[118,97,114]⟩:BA),10⟩ (⟨#[118,97,114]⟩:BA)=true;decide +kernel);(have U:aE ⟨ey++M,z⟩ (adv (adv (adv ⟨0,false,-1⟩))) (⟨#[102,117,110,99]⟩:BA)=false:=by show yJ ⟨2,(⟨#[118,97,114]⟩:BA),10⟩ (⟨#[102,117,110,99]⟩:BA)=false;decide +kernel);(have O:aE ⟨ey++M,z⟩ (adv (adv (adv ⟨0,false,-1⟩))) (⟨#[116,121,112,101]⟩:BA)=false:=by show yJ ⟨2,(⟨#[118,97,114]⟩:BA),10⟩ (⟨#[116,121,112,101]⟩:BA)=false;decide +kernel);have N:(am ⟨ey++M,z⟩ (adv (adv (adv (adv ⟨0,false,-1⟩)))).at_).kind=1:=rfl;(have J:aE ⟨ey++M,z⟩ (adv (adv (adv (adv (adv ⟨0,false,-1⟩))))) (⟨#[61]⟩:BA)=true:=by show yJ ⟨6,(⟨#[61]⟩:BA),16⟩ (⟨#[61]⟩:BA)=true;decide +kernel);(have hl:6≤(ey++M).length:=by rw [List.length_append,show ey.length=6 from rfl];omega);(have y:cM F ⟨ey++M,z⟩ (adv (adv (adv ⟨0,false,-1⟩)))=.ok (.mk 5 (⟨#[120]⟩:BA) [bJ,n'] 10) D:=by unfold cM;rw [wK I];simp only [cZ.bind_ok];rw [wL N];simp only [cZ.bind_ok];rw [if_pos J,show adv (adv (adv (adv (adv (adv ⟨0,false,-1⟩)))))=⟨6,false,-1⟩ from rfl,he];rfl);unfold cY;rw [wK i0];simp only [cZ.bind_ok];rw [wL q];simp only [cZ.bind_ok];rw [hg,d6];show (if db _ _=true then _ else _)=_;rw [if_pos h,if_neg (by show ¬ 2+1=(ey++M).length;omega),if_pos (by rw [I];simp)];unfold lB;rw [if_neg (by rw [U];decide),if_neg (by rw [O];decide),y];simp only [cZ.bind_ok];rw [d6];show (if db _ _=true then _ else _)=_;rw [if_pos (by unfold db;rw [h1];simp),if_pos h2];rfl
theorem yH:∀ (g:Nat) (n:Nd),dS g n≤dS (g+1) n
 | 0,_=>Nat.zero_le _
 | g+1,n=>by
  rw [ig];intro x D;rw [bg] at D;rcases List.mem_cons.1 D with rfl | D
  ·rw [dS];omega
  ·obtain ⟨k,I,D⟩:=List.mem_flatMap.1 D;have N:=(ig g k (dS g k)).1 (Nat.le_refl _) x D;have M:=yH g k;have J:dS (g+1) k≤(n.kids.map (dS (g+1))).foldl max 0:=((lS _ 0 _).1 (Nat.le_refl _)).2 _ (List.mem_map.2 ⟨k,I,rfl⟩);show g+1+1-x≤(n.kids.map (dS (g+1))).foldl max 0+1;omega
theorem Ds (g:Nat) (n:Nd):dS g (iZ n)=dS g n:=by
 refine Nat.le_antisymm ?_ ?_
 ·rw [ig,om];exact (ig g n _).1 (Nat.le_refl _)
 ·rw [ig,←om];exact (ig g (iZ n) _).1 (Nat.le_refl _)
theorem GO:∀ (g:Nat) (n:Nd),et g (iZ n)→et g n
 | 0,_,h=>h
 | g+1,n,h=>by refine ⟨by have D:=h.1;rw [dW,fp,List.length_map] at D;exact D,fun k I=>GO g k (h.2 _ ?_)⟩;rw [dW];exact List.mem_map.2 ⟨k,I,rfl⟩
theorem GP:∀ (g:Nat) (n:Nd),et g n→et g (iZ n)
 | 0,_,h=>h
 | g+1,n,h=>by refine ⟨by rw [dW,fp,List.length_map];exact h.1,fun k hk=>?_⟩;rw [dW] at hk;obtain ⟨y,D,rfl⟩:=List.mem_map.1 hk;exact GP g y (h.2 _ D)
theorem cJ.dle {n m:Nd} {g:Nat} (h:cJ n m) (hd:et g n):et g m:=GO g m (by rw [←show iZ n=iZ m from h];exact GP g n hd)
theorem ug {n:Nd} {g:Nat} (h:et g n):∀ k,et (g+k) n
 | 0=>h
 | k+1=>(ug h k).succ
theorem uh {s:ByteArray} {n:Nd} (h:il fG s=.tree n):∃ L,bv s=.toks L∧∃ D,fG.expr ⟨L,(s.size:Int)⟩ ⟨0,false,-1⟩=.ok n D∧((aE ⟨L,(s.size:Int)⟩ D (⟨#[10]⟩:BA)=true∧D.at_+1=L.length)∨(aE ⟨L,(s.size:Int)⟩ D (⟨#[10]⟩:BA)=false∧D.at_=L.length))∧oy 101 n∧eT n=true:=by
 unfold il at h;cases N:bv s with
 | err p e=>rw [N] at h;cases h
 | toks L=>
  rw [N] at h;have h:iD ⟨L,(s.size:Int)⟩ (cI fG.expr ⟨L,(s.size:Int)⟩ ⟨0,false,-1⟩)=.tree n:=h;refine ⟨L,rfl,?_⟩;have J:=ms N;unfold cI at h J;cases q:fG.expr ⟨L,(s.size:Int)⟩ ⟨0,false,-1⟩ with
  | out=>rw [q] at h;cases h
  | fail p=>rw [q] at h;cases h
  | ok m D=>
   rw [q] at h J;simp only [cZ.bind_ok] at h J;cases O:aE ⟨L,(s.size:Int)⟩ D (⟨#[10]⟩:BA) with
   | true=>
    rw [if_pos O] at h J;obtain ⟨j,z,hj⟩:=J;have U:=(rb z (ia (eV N)).2.1);have y:=lm O;unfold iD at h;simp only at h;split at h
    ·cases h
    ·rename_i M;split at h
     ·rename_i I;injection h with h;subst h;exact ⟨D,rfl,.inl ⟨O,by show D.at_+1=L.length;have:¬ D.at_+1<L.length:=M;have:D.at_<L.length:=y;omega⟩,U.2.1,I⟩
     ·cases h
   | false=>
    rw [if_neg (by rw [O];decide)] at h J;obtain ⟨j,z,hj⟩:=J;have U:=(rb z (ia (eV N)).2.1);have ga:j≤L.length:=U.1;unfold iD at h;simp only at h;split at h
    ·cases h
    ·rename_i M;split at h
     ·rename_i I;injection h with h;subst h;refine ⟨D,rfl,.inr ⟨O,?_⟩,U.2.1,I⟩;have:¬ D.at_<L.length:=M;omega
     ·cases h
theorem yI {d:Nat} {n:Nd} (h:et d n):∀ k,(lU d).expr n=(lU (d+k)).expr n
 | 0=>rfl
 | k+1=>(yI h k).trans ((fF (d+k)).expr n (ug h k))
theorem EC {F:eF} {n:Nd} (h:ex F n=true):n.kind≠0:=by intro e;unfold ex at h;rw [e] at h;simp [ew,e] at h
theorem ED {s:ByteArray} {L:List bE} (h:bv s=.toks L):eW L=none:=by
 unfold bv at h;cases hs:cr s with
 | err p e=>rw [hs] at h;cases h
 | toks L'=>
  rw [hs] at h;simp only at h;cases D:eW L' with
  | some q=>rw [D] at h;cases h
  | none=>rw [D] at h;injection h with h;rw [←h];exact D
theorem uz {n:Nd} {m:Nat} (D:oy m n) (h:dS 101 n≤m) (J:m≤100):et m n:=by
 have key:∀ (g:Nat) (n:Nd) (m:Nat),oy m n→dS (m+1+g) n≤m→et m n:=by
  intro g n m;induction m generalizing n with
  | zero=>intro _ h;rw [show 0+1+g=g+1 by omega,dS] at h;omega
  | succ m ih=>intro D h;refine ⟨D.1,fun k I=>ih k (D.2 k I) ?_⟩;rw [show m+1+1+g=(m+1+g)+1 by omega,dS] at h;have M:dS (m+1+g) k≤(n.kids.map (dS (m+1+g))).foldl max 0:=((lS _ 0 _).1 (Nat.le_refl _)).2 _ (List.mem_map.2 ⟨k,I,rfl⟩);omega
 exact key (100-m) n m D (by rw [show m+1+(100-m)=101 by omega];exact h)
theorem BL {s:ByteArray} {n:Nd} (hs:s.size≤1000) (h9:0<s.size→aa s 0≠239) (h:il fG s=.tree n) (hd:dS 101 n≤90) :
  ∃ n',dm fG (pm s)=.tree (.mk 1 (⟨#[112]⟩:BA) [.mk 5 (⟨#[120]⟩:BA) [bJ,n'] 10] 0)∧cJ n' n∧et 200 n':=by
 obtain ⟨L,ht,s0,hx,gj,gd,J⟩:=uh h;have I:=eV ht;have q:=GL hs h9 I;have gl:=GM ((18:Nat):Int) (ED ht);have gr:=rt s;(have ge:bv (pm s)=.toks (ey++L.map (ii ((18:Nat):Int))):=by unfold bv;rw [q];simp only;rw [gl]);have ga:=oG ge;have hK:∀ t∈L,KD t:=(lw I).kd;have hE:Mc ⟨L,(s.size:Int)⟩ ⟨ey++L.map (ii ((18:Nat):Int)),((pm s).size:Int)⟩ 6 (fun p=>p+((18:Nat):Int)):=⟨rfl,by show (ey++_).length=_;rw [List.length_append,List.length_map];show 6+L.length=L.length+6;omega⟩
 have hrel:=(sw hE 200000).expr ⟨0,false,-1⟩ ⟨6,false,-1⟩ ⟨rfl,rfl,fun m=>by show (-1:Int)=_↔(-1:Int)=_;omega⟩;have D:=(sD (c:=⟨L,(s.size:Int)⟩) hK 200000).expr ⟨0,false,-1⟩;rw [show (pv 200000).expr ⟨L,(s.size:Int)⟩ ⟨0,false,-1⟩=.ok n s0 from hx] at hrel D;have D:dz ⟨L,(s.size:Int)⟩ s0:=D;have gh:aE ⟨L,(s.size:Int)⟩ s0 (⟨#[10]⟩:BA)=true∧s0.at_+1=L.length:=by
  rcases gj with h1 | ⟨-,h2⟩
  ·exact h1
  ·exfalso;have gg:bL L=false:=by
    unfold cr at I;rw [if_neg (by omega)] at I;cases hq:dE s with
    | some p=>rw [hq] at I;cases I
    | none=>
     rw [hq] at I;have I:nQ (aU s (s.size+1) 0 [])=.toks L:=I;obtain ⟨-,h3⟩:=nw (ue s) (base:=ey) (by decide +kernel) (by omega) (Dr h9) (s.size+1) 0 [] (Nat.zero_le _) (by omega) ⟨Nat.le_refl _,fun t ht=>by simp at ht⟩;cases hr:aU s (s.size+1) 0 [] with
     | bad p=>rw [hr] at I;cases I
     | ok L'=>rw [hr] at I;injection I with I;subst I;obtain ⟨l0,rfl,-⟩:=h3 L' hr;exact mv _ _
   unfold dz at D;rcases List.eq_nil_or_concat L with rfl | ⟨l,t,rfl⟩
   ·rw [lL (by simp)] at D;revert D;show fS ⟨0,⟨#[]⟩,_⟩=true→False;rw [show fS ⟨0,⟨#[]⟩,(s.size:Int)⟩=fS ⟨0,⟨#[]⟩,0⟩ from rfl,show fS ⟨0,⟨#[]⟩,0⟩=false by decide +kernel];decide
   ·rw [List.concat_eq_append] at *;rw [h2,f7 (by simp)] at D;rw [iF] at gg;simp [gg] at D
 cases O:(pv 200000).expr ⟨ey++L.map (ii ((18:Nat):Int)),((pm s).size:Int)⟩ ⟨6,false,-1⟩ with
 | out=>rw [O] at hrel;exact hrel.elim
 | fail p=>rw [O] at hrel;exact hrel.elim
 | ok n' s2=>
  rw [O] at hrel;obtain ⟨M,U⟩:=hrel;have U:mg 6 s0 s2:=U;have M:cJ n n':=M;have gi:=dD hE U (⟨#[10]⟩:BA);rw [gh.1] at gi;(have z:s2.at_+1=(ey++L.map (ii ((18:Nat):Int))).length:=by rw [U.at_,List.length_append,List.length_map,show ey.length=6 from rfl];have:=gh.2;omega);have N:=GN fG 199998 rfl (L.map (ii ((18:Nat):Int))) ((pm s).size:Int) n' s2 O gi z;have gk:et 90 n:=uz (by
   have key:∀ (k g:Nat) (n:Nd),oy (g+k) n→oy g n:=by
    intro k g;induction g with
    | zero=>exact fun _ _=>trivial
    | succ g ih=>exact fun n h=>by rw [show g+1+k=g+k+1 by omega] at h;exact ⟨h.1,fun j hj=>ih j (h.2 j hj)⟩
   exact key 11 90 n gd) hd (by omega)
  have gb:et 90 n':=M.dle gk;refine ⟨n',?_,M.symm,ug gb 110⟩;unfold dm;rw [ge];show dU ⟨ey++L.map (ii ((18:Nat):Int)),((pm s).size:Int)⟩ (cY fG ⟨ey++L.map (ii ((18:Nat):Int)),((pm s).size:Int)⟩ ⟨0,false,-1⟩)=_;have y:=ra ga N;rw [N];unfold dU;simp only;rw [if_neg (by show ¬ s2.at_+1<(ey++L.map (ii ((18:Nat):Int))).length;omega),if_pos];have gq:=y.cnt;have gs:=oF 100 (.mk 1 (⟨#[112]⟩:BA) [.mk 5 (⟨#[120]⟩:BA) [bJ,n'] 10] 0);have gm:=Bb q;have gt:(adv s2).at_≤(ey++L.map (ii ((18:Nat):Int))).length:=y.le;(have gp:dS 101 n'≤90:=by rw [←Ds,←show iZ n=iZ n' from M,Ds];exact hd);(have e1:dQ (.mk 1 (⟨#[112]⟩:BA) [.mk 5 (⟨#[120]⟩:BA) [bJ,n'] 10] 0)≤100:=by rw [←BK];have h3:dS 99 n'≤dS 101 n':=Nat.le_trans (yH 99 n') (yH 100 n');have h4:=sE 99 bJ;show (max 0 ((max (max 0 (dS 99 bJ)) (dS 99 n'))+1))+1≤100;have h5:dS 99 bJ=1:=rfl;omega);(have e2:sO 100 (.mk 1 (⟨#[112]⟩:BA) [.mk 5 (⟨#[120]⟩:BA) [bJ,n'] 10] 0)≤65536:=by unfold sO;omega);(have hex:(lU 100).expr n'=true:=by (have h1:(lU 101).expr n=true:=by unfold eT at J;rw [Bool.and_eq_true,Bool.and_eq_true] at J;exact J.2.2);rw [←(sB 101).expr,show iZ n=iZ n' from M,(sB 101).expr] at h1;rw [←yI gb 10,yI gb 11];exact h1);have gn:=EC (F:=lU 99) hex;unfold cV;rw [Bool.and_eq_true,Bool.and_eq_true,decide_eq_true_eq,decide_eq_true_eq];refine ⟨e1,e2,?_⟩;(have e3:aS n'=false:=by unfold aS;rw [decide_eq_false gn];rfl);(have e4:bj (⟨#[112]⟩:BA)=true:=by decide +kernel);(have e5:bj (⟨#[120]⟩:BA)=true:=by decide +kernel);unfold pB;rw [Nd.kind_mk,Nd.text_mk,e4,Nd.kids_mk,List.all_cons,List.all_nil];unfold lZ;rw [Nd.kind_mk,if_neg (by decide),if_neg (by decide),if_neg (by decide)];unfold si;rw [show aA bj (.mk 5 (⟨#[120]⟩:BA) [bJ,n'] 10)=.mk 5 (⟨#[]⟩:BA) [bJ,n'] 10 by unfold aA;rw [Nd.text_mk,e5];rfl];unfold ew;simp only [Nd.kind_mk,Nd.text_mk,Nd.kids_mk,d7,fm,List.getD_cons_zero,List.getD_cons_succ,hex,e3];decide
end
section
open Go.RowKit Go.Lib Go.Proofs
attribute [local go_sem ↓] Go.wp_at_zero Go.wp_at_succ
attribute [local go_sem] aW aX aY aZ
theorem ui {s:ByteArray} (h:0<s.size):((s[0]'h).toNat:Int)=(aa s 0:Int):=by rw [dy,List.getD_eq_getElem?_getD,List.getElem?_eq_getElem (show 0<(bytes s).length from h)];rfl
theorem IY {s:ByteArray} {p k:Int} (h:il fG s=.bad p k):k≠0:=by
 unfold il at h;cases D:bv s with
 | err p e=>rw [D] at h;injection h with _ h;subst h;exact mc D
 | toks L=>
  rw [D] at h;have h:iD ⟨L,(s.size:Int)⟩ (cI fG.expr ⟨L,(s.size:Int)⟩ ⟨0,false,-1⟩)=.bad p k:=h;unfold iD at h;split at h
  ·cases h
  ·injection h with _ h;subst h;decide
  ·split at h
   ·injection h with _ h;subst h;decide
   ·split at h
    ·cases h
    ·injection h with _ h;subst h;decide
theorem CR (s:ByteArray) (w:World) (hT:iq w) :
  Calls Tryz.prog 8 #[.string s] w fun e w'=>e=.returned (.bool true)∧Below w.heap.size w w':=by
 by_cases hz:1000<s.size
 ·(have g7:(s.size:Int)>1000:=by omega);clear hT;(go_enter Tryz.func8,Tryz.ntmps8);(go_wp2_with fail);go_ret;exact ⟨rfl,Below.refl _ _⟩
 (have g7:¬ (s.size:Int)>1000:=by omega);by_cases hl:0<s.size∧aa s 0=239
 ·(have hp:(s.size:Int)>0:=by omega);(have ho:(0:Int)<(s.size:Int):=by omega);(have hq:(((s[0]'hl.1).toNat:Int)==239)=true:=by rw [ui,hl.2];rfl);clear hT;(go_enter Tryz.func8,Tryz.ntmps8);(go_wp2_with fail);go_ret;exact ⟨rfl,Below.refl _ _⟩
 have h9:0<s.size→aa s 0≠239:=fun h0 hb=>hl ⟨h0,hb⟩;(have hq:∀ h:0<s.size,(((s[0]'h).toNat:Int)==239)=false:=fun h=>by rw [ui,beq_eq_false_iff_ne];have:=h9 h;omega);have gp:=hid (Cp w hT);have HX:=AT s w hT (by omega);have HG:=hid (fun (A':Option Addr) (c':Nat) W (hb:Below w.heap.size w W) (g8:dr W A' c' (pm s))=>n7 A' c' (pm s) W g8 (hT.below hb) (by rw [rt];omega));have g9:=rt s;have gn:=hid (fun n (h:il fG s=.tree n) (hd:dS 101 n≤90)=>BL (by omega) h9 h hd);clear hT h9 hl;cases hO:il fG s with
 | out=>exact absurd hO (AS s)
 | bad p k=>(have hk:(k != 0)=true:=by rw [bne_iff_ne];exact IY hO);rw [hO] at HX;have HX:=hid HX;clear HG gn hO;by_cases h0:0<s.size;all_goals (go_enter Tryz.func8,Tryz.ntmps8);(go_wp2_with fail);refine HX.out.mono ?_;rintro e w1 ⟨rfl,I⟩;have gg:=I.alloc I.size (.cells aV 24);have N:=hid (gp.out _ gg);clear HX I;unfold aV at gg N ⊢;(go_wp2_with fail);refine N.out.mono ?_;rintro e w2 ⟨rfl,M⟩;(go_wp2_with fail);go_ret;exact ⟨rfl,gg.trans (M.mono gg.size)⟩
 | tree n=>
  have g1:=hid (gn.out n hO);obtain ⟨-,-,-,-,-,gh,-⟩:=uh hO;have g0:=hid gh;rw [hO] at HX;have HX:=hid HX;clear gn hO gh;by_cases h0:0<s.size;all_goals
   (go_enter Tryz.func8,Tryz.ntmps8);(go_wp2_with fail);refine HX.out.mono ?_;rintro e w1 ⟨v,rfl,hv,I⟩;obtain ⟨A1,c1,rfl,hC⟩:=hv.toC;have gm:=(Below.refl w1.heap.size w1).alloc (Nat.le_refl _) (.cells (nv n A1 c1) 24);have gd:aj (w1.alloc (.cells (nv n A1 c1) 24)) w1.heap.size 24 (nv n A1 c1):=aj.new w1 _ _;have gz:=I.trans (gm.mono I.size);have gj:=hv.wide.below gm;have g6:=hid (CQ 101 _ n _ (by decide) gj g0.out);have g5:=hid gj;obtain ⟨x0,x1,x2,x3,-,-,-,-⟩:=ac gd;have he:=sE 101 n;clear hv hC gm gj HX I;(go_wp2_with fail);refine g6.out.mono ?_;rintro e w2 ⟨rfl,M⟩;have y:=gz.trans (M.mono gz.size);have gk:=gd.below M gd.lt;have g4:=hid (g5.out.below M);clear g6 x0 x1 x2 x3 M gd g5;by_cases hd:dS 101 n≤90
   ·(have hd2:¬ ((dS 101 n:Nat):Int)>90:=by omega);obtain ⟨n',hQ,gu,gv⟩:=g1.out hd;have hi:=hid gu;have hj:=hid gv;rw [hQ] at HG;(have ha:(⟨#[112,97,99,107,97,103,101,32,112,10,118,97,114,32,120,32,61,32]⟩++s:ByteArray).size=18+s.size:=by rw [ByteArray.size_append];rfl);obtain ⟨W3,A3,c3,hf,gq,J,hn⟩:=rJ w2 (⟨#[112,97,99,107,97,103,101,32,112,10,118,97,114,32,120,32,61,32]⟩++s++⟨#[10]⟩);have gl:=y.trans (J.mono y.size);have gb:=HG.out A3 c3 W3 gl gq;rw [g9,show s.size+19=18+s.size+1 by omega] at gb;have gb:=hid gb;have q:=gk.below J gk.lt;have g3:=hid (g4.out.below J);clear HG g1 hQ gu gv gq J gk g4 g0 hq he hd;(go_wp2_with fail);refine gb.out.mono ?_;rintro e w4 ⟨u,rfl,hu,U⟩;obtain ⟨A4,c4,rfl,hC⟩:=hu.toC;simp only [Nd.kids_mk,Nd.kind_mk,Nd.text_mk,Nd.pos_mk,List.length_cons,List.length_nil,Nat.zero_add] at hC hu ⊢;have ga:=(Below.refl w4.heap.size w4).alloc (Nat.le_refl _) (.cells #[.int .i64 1,.string (⟨#[112]⟩:BA),.slice A4 1 c4,.int .i64 0] 24);have gx:aj (w4.alloc (.cells #[.int .i64 1,.string (⟨#[112]⟩:BA),.slice A4 1 c4,.int .i64 0] 24)) w4.heap.size 24 #[.int .i64 1,.string (⟨#[112]⟩:BA),.slice A4 1 c4,.int .i64 0]:=aj.new w4 _ _;have gy:=gl.trans (U.mono gl.size);have ge:=gy.trans (ga.mono gy.size);have gw:=(q.below U q.lt).below ga (q.below U q.lt).lt;have g2:=hid ((g3.out.below U).below ga);have gr:eG (w4.alloc (.cells #[.int .i64 1,.string (⟨#[112]⟩:BA),.slice A4 1 c4,.int .i64 0] 24)) (.agg #[.int .i64 1,.string (⟨#[112]⟩:BA),.slice A4 1 c4,.int .i64 0]) (.mk 1 (⟨#[112]⟩:BA) [.mk 5 (⟨#[120]⟩:BA) [bJ,n'] 10] 0):=hu.wide.below ga;obtain ⟨b5,o5,A5,c5,rfl,gt⟩:=tQ gr 0 (by simp);have O:C4 _ b5 (o5+0) (.mk 5 (⟨#[120]⟩:BA) [bJ,n'] 10) A5 c5:=gt;obtain ⟨b6,o6,A6,c6,rfl,gs⟩:=tQ O.2.2.2.2 1 (by simp);have gi:C4 _ b6 (o6+4) n' A6 c6:=gs;obtain ⟨x0,x1,x2,x3,-,-,-,-⟩:=ac gw;obtain ⟨y0,y1,y2,y3,-,-,-,-⟩:=ac gx;generalize hw6:w4.alloc (.cells #[.int .i64 1,.string (⟨#[112]⟩:BA),.slice (some ⟨b5,o5,none⟩) 1 c4,.int .i64 0] 24)=D at *;have hg:=hid hw6;clear hw6;have kx:∀ (j:Nat) (z:Value),D.cell? ⟨w1.heap.size,j,none⟩=some z→∀ m:Wd (Below D.heap.size D),m.wd.cell? ⟨w1.heap.size,j,none⟩=some z:=fun j z h m=>(m.ok.cell (World.block_lt_of_cell? D _ h)).trans h;have k0:=kx 0 _ x0;have k1:=kx 1 _ x1;have k2:=kx 2 _ x2;have k3:=kx 3 _ x3;have ky:∀ m:Wd (Below D.heap.size D),m.wd.cell? ⟨w4.heap.size,2,none⟩=some (.slice (some ⟨b5,o5,none⟩) 1 c4):=fun m=>(m.ok.cell (World.block_lt_of_cell? D _ y2)).trans y2;have kz:∀ m:Wd (Below D.heap.size D),m.wd.cell? ⟨b5,o5+2,none⟩=some (.slice (some ⟨b6,o6,none⟩) 2 c5):=fun m=>(O.below m.ok).2.2.1;have hm:∀ m:Wd (Below D.heap.size D),C4 m.wd b6 (o6+4) n' A6 c6:=fun m=>gi.below m.ok;have m0:=fun m=>(hm m).1;have m1:=fun m=>(hm m).2.1;have m2:=fun m=>(hm m).2.2.1;have m3:=fun m=>(hm m).2.2.2.1;have hh:=hid (fun m:Wd (Below D.heap.size D)=>wF 200 _ _ n' n m.wd (by decide) (hm m).2.2.2.2 (g2.out.below m.ok) hi.out hj.out);have N:=hid (fun m:Wd (Below D.heap.size D)=>gp.out m.wd (ge.trans (m.ok.mono ge.size)));clear hf gb U ga hu hC q gx gw gr gt O gs gi hm g3 g2 kx x0 x1 x2 x3 y0 y1 y2 y3 ha;(go_wp2_with fail);rw [hg.out];haveI:Nonempty (Wd (Below D.heap.size D)):=⟨⟨D,Below.refl _ _⟩⟩
    refine aw (Below D.heap.size D) (by kernel_rfl) (by kernel_rfl) (Below.refl _ _).drew ?_;(repeat (go_big_quiet_step ((first | (go_at_call 14;rename_i m;refine (hh.out m).mono ?_;rintro e w' ⟨rfl,hb⟩;exact ⟨rfl,⟨w',m.ok.trans (hb.mono m.ok.size)⟩,rfl⟩) | (go_at_call 17;rename_i m;refine (N.out m).mono ?_;rintro e w' ⟨rfl,hb⟩;exact ⟨rfl,⟨w',m.ok.trans (hb.mono m.ok.size)⟩,rfl⟩)))));refine wpQuiet_nil ?_;intro m;(go_wp2_with fail);go_ret;exact ⟨rfl,ge.trans (m.ok.mono ge.size)⟩
   ·(have hd2:((dS 101 n:Nat):Int)>90:=by omega);have N:=hid (gp.out _ y);(go_wp2_with fail);refine N.out.mono ?_;rintro e w3 ⟨rfl,J⟩;(go_wp2_with fail);go_ret;exact ⟨rfl,y.trans (J.mono y.size)⟩
end
end Go.Proofs.YtiebcdeafofgdaaGreatDoor
