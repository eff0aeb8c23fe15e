/-
  Parts of the proof: Pnt Usame. By an AI agent.
-/
import Derived.Test.YtiebcdeafofgdaaGreatDoorJ46
import Derived.Test.YtiebcdeafofgdaaGreatDoorJ44
import Derived.Test.YtiebcdeafofgdaaGreatDoorJ17
import Derived.Test.YtiebcdeafofgdaaGreatDoorJ45
import Derived.Test.YtiebcdeafofgdaaGreatDoorJ01
import Derived.BigQuiet
set_option maxRecDepth 100000
set_option maxHeartbeats 8000000
namespace Go.Proofs.YtiebcdeafofgdaaGreatDoor
section
open Go.Lib
def iR (c:UInt8):ByteArray:=⟨#[47,47,32,120,c]⟩
def ny (c:UInt8):List UInt8:=[47,47,32,120,c,10,47,42,32,121,32,42,47,32]
def du (c:UInt8):List UInt8:=[10,47,47,32,120,c]
def ed (c:UInt8) (s:ByteArray):ByteArray:=iR c++⟨#[10,47,42,32,121,32,42,47,32]⟩++s++⟨#[10]⟩++iR c
def CI (c:UInt8):Prop:=∃ i:Fin 26,c=UInt8.ofNat (97+i.val)
theorem iS (c:UInt8) (s:ByteArray):bytes (ed c s)=ny c++(bytes s++du c):=by unfold ed;rw [bS,bS,bS,bS];show [47,47,32,120,c]++[10,47,42,32,121,32,42,47,32]++bytes s++[10]++[47,47,32,120,c]=_;simp [ny,du]
theorem lQ (c:UInt8) (s:ByteArray):(ed c s).size=s.size+20:=by have h:=congrArg List.length (iS c s);rw [bz,List.length_append,List.length_append,bz] at h;rw [h];show 14+(s.size+6)=_;omega
theorem En {c:UInt8} (h:CI c):IK (du c):=by
 obtain ⟨i,rfl⟩:=h;refine ⟨⟨_,rfl⟩,?_,?_⟩
 ·revert i;decide
 ·revert i;decide
theorem Gv {c:UInt8} (h:CI c) (q:List UInt8):dT ([47,47,32,120,c]++10::q)=5:=by obtain ⟨i,rfl⟩:=h;rw [sd _ ⟨q,rfl⟩];revert i;decide
theorem Eo {c:UInt8} (h:CI c):dT [47,47,32,120,c]=5:=by obtain ⟨i,rfl⟩:=h;revert i;decide
theorem nz {c:UInt8} (h:CI c) (s:ByteArray):nr s (ed c s) 14:=⟨by decide,du c,En h,by rw [iS];rfl⟩
theorem wE (p:Int):fS ⟨6,⟨#[10]⟩,p⟩=false:=by show fS ⟨6,⟨#[10]⟩,0⟩=false;decide +kernel
theorem iF (l:List bE) (t:bE):bL (l++[t])=fS t:=by unfold bL;rw [List.getLast?_concat]
theorem mv (l:List bE) (p:Int):bL (cC l p)=false:=by
 unfold cC;cases h:bL l with
 | true=>rw [if_pos rfl,iF,wE]
 | false=>rw [if_neg (by simp)];exact h
theorem Bu (d:Int) (l:List bE):bL (l.map (ii d))=bL l:=by
 have:=nu (base:=[]) rfl d l
 rwa [List.nil_append] at this
theorem Gw (d:Int) (l:List bE) (p p':Int) (h:p'=p+d):cC (l.map (ii d)) p'=(cC l p).map (ii d):=by
 have:=oL (base:=[]) rfl d l p p' h
 rwa [List.nil_append,List.nil_append] at this
theorem t7 {l:List bE} (h:bL l=false) (p:Int):cC l p=l:=by unfold cC;rw [h];rfl
theorem eq {s:ByteArray} {g i j:Nat} {l l':List bE} (D:i<s.size) (h:bC s i l=.go j l'):aU s (g+1) i l=aU s g j l':=by rw [aU,if_pos D,h]
theorem rK {s:ByteArray} {i:Nat} {l:List bE} (I:¬ (i=0∧hasPrefix (bytes s) [239,187,191]=true)) (D:aa s i=47) {r:GQ} (h:dj s i l=some r):bC s i l=r:=by unfold bC;rw [if_neg I,D,if_neg (by decide),if_neg (by decide),h]
theorem mK {s:ByteArray} {i:Nat} {l:List bE} (I:¬ (i=0∧hasPrefix (bytes s) [239,187,191]=true)) (D:aa s i=10):bC s i l=.go (i+1) (cC l i):=by unfold bC;rw [if_neg I,if_pos D]
theorem t8 {s:ByteArray} {i:Nat} {l:List bE} (I:¬ (i=0∧hasPrefix (bytes s) [239,187,191]=true)) (D:aa s i=32):bC s i l=.go (i+1) l:=by unfold bC;rw [if_neg I,if_neg (by omega),if_pos (.inl D)]
section
variable {c:UInt8} (hc:CI c) (s:ByteArray)
include hc
theorem CJ (g:Nat):aU (ed c s) (g+4) 0 []=aU (ed c s) g 14 []:=by have hb:=iS c s;have U:=lQ c s;generalize ed c s=t at *;(have hd:∀ i,(bytes t).drop i=(ny c++(bytes s++du c)).drop i:=fun i=>by rw [hb]);(have D:∀ i,aa t i=((ny c++(bytes s++du c)).getD i 0).toNat:=fun i=>by rw [dy,hb]);(have q:hasPrefix (bytes t) [239,187,191]=false:=by rw [hb];rfl);(have I:∀ i,¬ (i=0∧hasPrefix (bytes t) [239,187,191]=true):=fun i h=>by rw [q] at h;exact absurd h.2 (by decide));(have O:bC t 0 []=.go 5 []:=by refine rK (I 0) (by rw [D];rfl) ?_;unfold dj;rw [show t.data.toList.drop 0=[47,47,32,120,c]++10::([47,42,32,121,32,42,47,32]++(bytes s++du c)) from hd 0,if_pos (show hasPrefix ([47,47,32,120,c]++10::([47,42,32,121,32,42,47,32]++(bytes s++du c))) [47,47]=true from rfl),Gv hc]);(have N:bC t 5 []=.go 6 []:=by rw [mK (I 5) (by rw [D];rfl)];rfl);(have M:bC t 6 []=.go 13 []:=by refine rK (I 6) (by rw [D];rfl) ?_;unfold dj;have e:t.data.toList.drop 6=[47,42,32,121,32,42,47]++(32::(bytes s++du c)):=hd 6;(have ei:index (([47,42,32,121,32,42,47]++(32::(bytes s++du c))).drop 2) [42,47]=3:=by show index (32::121::32::42::47::32::(bytes s++du c)) [42,47]=3;simp [index,List.isPrefixOf]);rw [e,if_neg (by simp [hasPrefix,List.isPrefixOf]),if_pos (show hasPrefix ([47,42,32,121,32,42,47]++(32::(bytes s++du c))) [47,42]=true from rfl),ei,if_neg (by decide)];rw [show (3:Int).toNat+4=([47,42,32,121,32,42,47]:List UInt8).length from rfl,List.take_left];rw [if_neg (by decide)];rfl);have J:bC t 13 []=.go 14 []:=t8 (I 13) (by rw [D];rfl);rw [eq (by omega) O,eq (by omega) N,eq (by omega) M,eq (by omega) J]
theorem Bv (g:Nat) (l:List bE):aU (ed c s) (g+3) (s.size+14) (l.map (ii ((14:Nat):Int)))=.ok ((cC l (s.size:Int)).map (ii ((14:Nat):Int))):=by have hW:=nz hc s;have hb:=iS c s;have N:=lQ c s;generalize ed c s=t at *;(have hd:(bytes t).drop (s.size+14)=du c:=by rw [hb,Nat.add_comm,←List.drop_drop,show ((ny c++(bytes s++du c)).drop 14)=bytes s++du c from rfl,List.drop_append_of_le_length (by rw [bz];omega),List.drop_of_length_le (by rw [bz];omega),List.nil_append]);(have hd2:(bytes t).drop (s.size+15)=[47,47,32,120,c]:=by rw [show s.size+15=s.size+14+1 by omega,←List.drop_drop,hd];rfl);(have D:aa t (s.size+15)=47:=by (have O:(bytes t).getD (s.size+15) 0=((bytes t).drop (s.size+15)).getD 0 0:=by rw [List.getD_eq_getElem?_getD,List.getD_eq_getElem?_getD,List.getElem?_drop,Nat.add_zero]);rw [dy,O,hd2];rfl);(have I:∀ i,0<i→¬ (i=0∧hasPrefix (bytes t) [239,187,191]=true):=fun i hi h=>by omega);(have M:bC t (s.size+14) (l.map (ii ((14:Nat):Int)))=.go (s.size+15) ((cC l (s.size:Int)).map (ii ((14:Nat):Int))):=by rw [mK (I _ (by omega)) hW.end_,Gw _ l (s.size:Int) _ (by omega)]);(have J:bC t (s.size+15) ((cC l (s.size:Int)).map (ii ((14:Nat):Int)))=.go (s.size+20) ((cC l (s.size:Int)).map (ii ((14:Nat):Int))):=by refine rK (I _ (by omega)) D ?_;unfold dj;rw [show t.data.toList.drop (s.size+15)=[47,47,32,120,c] from hd2,if_pos (show hasPrefix (47::47::_) [47,47]=true from rfl),Eo hc]);rw [eq (by omega) M,eq (by omega) J,aU,if_neg (by omega)];rw [t7 (by rw [Bu];exact mv _ _)]
def Ep (d:Int):iY→iY
 | .toks L=>.toks (L.map (ii d))
 | .err p e=>.err (p+d) e
variable (hs:s.size≤1500) (h9:0<s.size→aa s 0≠239)
include hs h9
theorem Bw:dE (ed c s)=(dE s).map (· + 14):=by
 have hW:=nz hc s;have hb:=iS c s;have q:=lQ c s;generalize ed c s=t at *;(have D:∀ i,aa t i=((ny c++(bytes s++du c)).getD i 0).toNat:=fun i=>by rw [dy,hb]);(have I:∀ i,i<14→0<aa t i∧aa t i<128:=by intro i N;rw [D,List.getD_eq_getElem?_getD,List.getElem?_append_left (by exact N)];obtain ⟨k,rfl⟩:=hc;(have key:∀ (k:Fin 26) (i:Fin 14),0<(((ny (UInt8.ofNat (97+k.val)))[i.val]?).getD 0).toNat∧(((ny (UInt8.ofNat (97+k.val)))[i.val]?).getD 0).toNat<128:=by decide);exact key k ⟨i,N⟩);(have O:∀ i,s.size+14≤i→i<t.size→0<aa t i∧aa t i<128:=by intro i N hl;obtain ⟨j,rfl⟩:∃ j,i=s.size+14+j:=⟨i-(s.size+14),by omega⟩;(have h:j<6:=by omega);(have e:aa t (s.size+14+j)=((du c).getD j 0).toNat:=by rw [D,List.getD_eq_getElem?_getD,List.getD_eq_getElem?_getD];have M:(ny c).length=14:=rfl;have J:(bytes s).length=s.size:=bz s;rw [List.getElem?_append_right (by omega),List.getElem?_append_right (by omega),M,J,show s.size+14+j-14-s.size=j by omega]);rw [e];obtain ⟨k,rfl⟩:=hc;(have key:∀ (k:Fin 26) (i:Fin 6),0<((du (UInt8.ofNat (97+k.val))).getD i.val 0).toNat∧((du (UInt8.ofNat (97+k.val))).getD i.val 0).toNat<128:=by decide);exact key k ⟨j,h⟩);unfold dE;rw [show t.size=s.size+6+14 by omega,oh t 14 (s.size+6) 0 (by omega) (fun j _ h=>I j (by omega))];obtain ⟨h1,z⟩:=oe hW h9 s.size 0 (Nat.zero_le _) (by omega);cases U:bM s s.size 0 with
 | some p=>exact h1 p U (s.size+6) (by omega)
 | none=>obtain ⟨g'',h3,y⟩:=z U (s.size+6) (by omega);rw [y];exact og t g'' (s.size+14) O
theorem CK:cr (ed c s)=Ep ((14:Nat):Int) (cr s):=by
 have hW:=nz hc s;have q:=Bw hc s hs h9;have y:=lQ c s;have ha:=CJ hc s (s.size+17);have M:=Bv hc s;generalize ed c s=t at *;have z:hasPrefix (bytes s) [239,187,191]=false:=by
  cases D:hasPrefix (bytes s) [239,187,191] with
  | false=>rfl
  | true=>
   exfalso;unfold hasPrefix at D;have N:(bytes s).length=s.size:=bz s;cases I:bytes s with
   | nil=>rw [I] at D;simp at D
   | cons a r=>rw [I] at D N;rw [List.isPrefixOf,Bool.and_eq_true,beq_iff_eq] at D;have J:=h9 (by rw [←N];simp);rw [dy,I] at J;exact J (by show a.toNat=239;rw [←D.1];rfl)
 unfold cr;rw [if_neg (by omega),if_neg (by omega),q];cases I:dE s with
 | some p=>show iY.err ((p+14:Nat):Int) 2=iY.err ((p:Int)+((14:Nat):Int)) 2;congr 1
 | none=>
  show nQ (aU t (t.size+1) 0 [])=Ep _ (nQ (aU s (s.size+1) 0 []));rw [show t.size+1=s.size+17+4 by omega,ha];obtain ⟨J,h2⟩:=nw hW (base:=[]) rfl (by omega) z (s.size+1) 0 [] (Nat.zero_le _) (by omega) ⟨Nat.le_refl _,fun t ht=>by simp at ht⟩;cases O:aU s (s.size+1) 0 [] with
  | bad p=>have:=J p O (s.size+17) (by omega);rw [show (0:Nat)+14=14 from rfl,List.map_nil,List.append_nil] at this;rw [this];show iY.err ((p+14:Nat):Int) 3=iY.err ((p:Int)+((14:Nat):Int)) 3;congr 1
  | ok L=>obtain ⟨h,rfl,h3⟩:=h2 L O;obtain ⟨g'',h4,U⟩:=h3 (s.size+17) (by omega);rw [show (0:Nat)+14=14 from rfl,List.map_nil,List.append_nil,List.nil_append] at U;obtain ⟨g,rfl⟩:∃ g,g''=g+3:=⟨g''-3,by omega⟩;rw [U,M g h];rfl
end
theorem Dh (d:Int) (t:bE):iV (ii d t)=iV t:=rfl
theorem Di (d:Int) (t:bE):iK (ii d t)=iK t:=rfl
theorem rj {p:bE→Bool} (d:Int) (D:∀ t,p (ii d t)=p t):∀ L:List bE,(L.map (ii d)).find? p=(L.find? p).map (ii d)
 | []=>rfl
 | t::L=>by rw [List.map_cons,List.find?_cons,List.find?_cons,D,rj d D L];cases p t <;> rfl
theorem Gx (d:Int) (L:List bE):eW (L.map (ii d))=(eW L).map fun q=>(q.1+d,q.2):=by
 unfold eW;rw [rj d (Dh d),rj d (Di d)];cases L.find? iV with
 | some t=>rfl
 | none=>cases L.find? iK <;> rfl
theorem Er {s t:ByteArray} {d:Int} (h:cr t=Ep d (cr s)):bv t=Ep d (bv s):=by
 unfold bv;rw [h];cases cr s with
 | err p e=>rfl
 | toks L=>show (match eW (L.map (ii d)) with | some q=>iY.err q.1 q.2 | none=>.toks (L.map (ii d)))=Ep d (match eW L with | some q=>iY.err q.1 q.2 | none=>.toks L);rw [Gx];cases eW L <;> rfl
def yC (z z':Int) (d:Int):pU→pU→Prop
 | .tree n,.tree m=>cJ n m
 | .bad p e,.bad q f=>e=f∧(e=11∨q=p+d∨(e=5∧p=z∧q=z'))
 | .out,.out=>True
 | _,_=>False
theorem LH (L:List bE) (z z' d:Int):Mc ⟨L,z⟩ ⟨L.map (ii d),z'⟩ 0 (fun p=>p+d):=⟨rfl,by show (L.map (ii d)).length=_;rw [List.length_map];rfl⟩
theorem IN {s t:ByteArray} {d:Int} (h:cr t=Ep d (cr s)):yC (s.size:Int) (t.size:Int) d (dm fG s) (dm fG t):=by
 have z:=Er h;unfold dm;rw [z];cases bv s with
 | err p e=>exact ⟨rfl,.inr (.inl rfl)⟩
 | toks L=>
  have hE:=LH L (s.size:Int) (t.size:Int) d;have I:=Bk hE (sw hE 200000) ⟨0,false,-1⟩ ⟨0,false,-1⟩ ⟨rfl,rfl,fun m=>Iff.rfl⟩;show yC _ _ _ (dU ⟨L,(s.size:Int)⟩ (cY fG ⟨L,(s.size:Int)⟩ ⟨0,false,-1⟩)) (dU ⟨L.map (ii d),(t.size:Int)⟩ (cY fG ⟨L.map (ii d),(t.size:Int)⟩ ⟨0,false,-1⟩));change a6 _ _ 0 (fun p=>p+d) cJ (cY fG ⟨L,(s.size:Int)⟩ ⟨0,false,-1⟩) (cY fG ⟨L.map (ii d),(t.size:Int)⟩ ⟨0,false,-1⟩) at I;generalize cY fG ⟨L,(s.size:Int)⟩ ⟨0,false,-1⟩=r at *;generalize cY fG ⟨L.map (ii d),(t.size:Int)⟩ ⟨0,false,-1⟩=r' at *;cases r <;> cases r' <;> first | exact I.elim | skip
  ·rename_i n J m O;obtain ⟨y,U⟩:=I;unfold dU;simp only;have N:O.at_=J.at_:=U.at_;have hl:(L.map (ii d)).length=L.length:=List.length_map _;rw [N,hl];by_cases hc:J.at_<L.length
   ·rw [if_pos hc,if_pos hc];have D:Ei ⟨L,(s.size:Int)⟩ ⟨L.map (ii d),(t.size:Int)⟩ (fun p=>p+d) (an ⟨L,(s.size:Int)⟩ J) (an ⟨L.map (ii d),(t.size:Int)⟩ O):=(oa hE U).2.2;refine ⟨rfl,?_⟩;rcases D with D | ⟨D,M⟩
    ·exact .inr (.inl D)
    ·exact .inr (.inr ⟨rfl,D,M⟩)
   ·rw [if_neg hc,if_neg hc,←y.right];split
    ·exact y
    ·exact ⟨rfl,.inl rfl⟩
  ·rename_i p q;refine ⟨rfl,?_⟩;rcases (show Ei ⟨L,(s.size:Int)⟩ ⟨L.map (ii d),(t.size:Int)⟩ (fun p=>p+d) p q from I) with D | ⟨D,M⟩
   ·exact .inr (.inl D)
   ·exact .inr (.inr ⟨rfl,D,M⟩)
  ·trivial
theorem LI {L:List bE} {z:Nat} (h:∀ t∈L,0≤t.pos∧t.pos≤(z:Int)):Mc ⟨L,(z:Int)⟩ ⟨L,(z:Int)⟩ 0 (fun p=>max 0 (min p (z:Int))):=by refine ⟨?_,rfl⟩;show L=L.map _;(conv=>lhs;rw [←List.map_id L]);refine List.map_congr_left fun t ht=>?_;obtain ⟨k,x,p⟩:=t;have:=h _ ht;show bE.mk k x p=bE.mk k x (max 0 (min p (z:Int)));have e:0≤p∧p≤(z:Int):=this;rw [show max 0 (min p (z:Int))=p by omega]
theorem Dj {c:Cx} {z:Nat} {p:Int} (D:c.fin=(z:Int)) (h:Ei c c (fun p=>max 0 (min p (z:Int))) p p):0≤p∧p≤(z:Int):=by
 rcases h with h | ⟨h,-⟩
 ·have h:p=max 0 (min p (z:Int)):=h;omega
 ·rw [h,D];omega
theorem Gy {s:ByteArray} {i p:Nat} {l:List bE} (h:bC s i l=.bad p):p=i:=by
 unfold bC at h;split at h
 ·cases h
 ·split at h
  ·cases h
  ·split at h
   ·cases h
   ·cases D:dj s i l with
    | some r=>
     rw [D] at h;have h:r=.bad p:=h;subst h;unfold dj at D;split at D
     ·injection D with D;cases D
     ·split at D
      ·split at D
       ·injection D with D;injection D with D;exact D.symm
       ·injection D with D;cases D
      ·cases D
    | none=>
     rw [D] at h;simp only at h;split at h
     ·cases h
     ·split at h
      ·cases h
      ·split at h
       ·unfold nP at h;split at h
        ·cases h
        ·injection h with h;exact h.symm
       ·unfold ik at h;split at h
        ·injection h with h;exact h.symm
        ·cases h
theorem Bx {s:ByteArray} : ∀ (g i:Nat) (l:List bE) (p:Nat),i≤s.size→aU s g i l=.bad p→s.size≤65536→fU i l→p≤s.size
 | 0,_,_,p,_,h,_,_=>by injection h with h;omega
 | g+1,i,l,p,O,h,hs,J=>by
  unfold aU at h;split at h
  ·rename_i I;cases D:bC s i l with
   | bad q=>rw [D] at h;injection h with h;have:=Gy D;omega
   | go j l'=>rw [D] at h;obtain ⟨U,N,M⟩:=lG s i l hs I J j l' D;exact Bx g j l' p N h hs M
  ·cases h
theorem ua (s:ByteArray):∀ (g i p:Nat),bM s g i=some p→p<s.size
 | 0,_,_,h=>by cases h
 | g+1,i,p,h=>by
  rw [bM] at h;split at h
  ·rename_i D;split at h
   ·injection h with h;omega
   ·exact ua s g _ p h
  ·cases h
theorem Gz {s:ByteArray} {p e:Int} (hs:s.size≤65536) (h:cr s=.err p e):0≤p∧p≤(s.size:Int):=by
 unfold cr at h;rw [if_neg (by omega)] at h;cases D:dE s with
 | some q=>rw [D] at h;injection h with h _;have:=ua s _ _ _ D;omega
 | none=>
  rw [D] at h;have h:nQ (aU s (s.size+1) 0 [])=.err p e:=h;cases I:aU s (s.size+1) 0 [] with
  | ok L=>rw [I] at h;cases h
  | bad q=>rw [I] at h;injection h with h _;have:=Bx _ 0 [] q (Nat.zero_le _) I hs ⟨Nat.le_refl _,fun t ht=>by simp at ht⟩;omega
theorem GA {s:ByteArray} {p k:Int} (hs:s.size≤65536) (h:dm fG s=.bad p k):0≤p∧p≤(s.size:Int):=by
 unfold dm at h;cases D:bv s with
 | err q e=>
  rw [D] at h;injection h with h _;subst h;unfold bv at D;cases I:cr s with
  | err q' e'=>rw [I] at D;injection D with D _;rw [←D];exact Gz hs I
  | toks L=>
   rw [I] at D;have U:=(lw I).at_;unfold eW at D;have D:(match CX (L.find? iV) (L.find? iK) with | some q=>iY.err q.1 q.2 | none=>.toks L)=.err q e:=D;cases J:L.find? iV with
   | some t=>rw [J] at D;injection D with D _;rw [←D];exact U t (List.mem_of_find?_eq_some J)
   | none=>
    cases O:L.find? iK with
    | some t=>rw [J,O] at D;injection D with D _;rw [←D];exact U t (List.mem_of_find?_eq_some O)
    | none=>rw [J,O] at D;cases D
 | toks L=>
  rw [D] at h;have hE:=LI (lw (eV D)).at_;have M:=Bk hE (sw hE 200000) ⟨0,false,-1⟩ ⟨0,false,-1⟩ ⟨rfl,rfl,fun m=>Iff.rfl⟩;have h:dU ⟨L,(s.size:Int)⟩ (cY fG ⟨L,(s.size:Int)⟩ ⟨0,false,-1⟩)=.bad p k:=h;change a6 _ _ 0 _ cJ (cY fG ⟨L,(s.size:Int)⟩ ⟨0,false,-1⟩) (cY fG ⟨L,(s.size:Int)⟩ ⟨0,false,-1⟩) at M;cases N:cY fG ⟨L,(s.size:Int)⟩ ⟨0,false,-1⟩ with
  | out=>rw [N] at h;cases h
  | fail q=>rw [N] at h M;injection h with h _;rw [←h];exact Dj rfl M
  | ok n s1=>
   rw [N] at h;unfold dU at h;simp only at h;split at h
   ·injection h with h _;rw [←h];exact Dj rfl (nm hE s1.at_).2.2
   ·split at h
    ·cases h
    ·injection h with h _;omega
theorem CL {c:UInt8} (hc:CI c) (s:ByteArray) (hs:s.size≤1500) (h9:0<s.size→aa s 0≠239):yC (s.size:Int) ((ed c s).size:Int) ((14:Nat):Int) (dm fG s) (dm fG (ed c s)):=
 IN (CK hc s hs h9)
end
section
open Go.RowKit Go.Lib Go.Proofs
attribute [local go_sem ↓] Go.wp_at_zero Go.wp_at_succ
theorem aT.get:∀ {l m:List Nd} (_:aT l m) (i:Nat) (I:i<l.length) (D:i<m.length),cJ l[i] m[i]
 | [],_,_,_,I,_=>absurd I (by simp)
 | _::_,[],_,_,_,D=>absurd D (by simp)
 | a::l,b::m,h,i,I,D=>by
  unfold aT at h;rw [nC,nC] at h;injection h with J h2;cases i with
  | zero=>exact J
  | succ i=>exact aT.get (show aT l m from h2) i (by simpa using I) (by simpa using D)
theorem wF:∀ (d:Nat) (v u:Value) (n m:Nd) (w:World),d≤1000→eG w v n→eG w u m→cJ n m→et d n →
  Calls Tryz.prog 14 #[v,u,.int .i64 (d:Int)] w fun e w'=>e=.returned (.bool true)∧Below w.heap.size w w':=by
 intro d;induction d with
 | zero=>intro v u n m w _ _ _ _ h;exact h.elim
 | succ d ih=>
  intro v u n m w hd hv hu he hl;obtain ⟨k,t,l,a⟩:=n;obtain ⟨k',t',l',a'⟩:=m;obtain rfl:k=k':=he.kind;obtain rfl:t=t':=he.text;have gb:=hid (show aT l l' from he.kids);have D:l'.length=l.length:=gb.out.len.symm;have HV:=hid hv;have HU:=hid hu;have HI:=hid ih;have HD:=hid (show ∀ k∈l,et d k from hl.2);have gl:l.length≤1000000000:=hl.1.1;obtain ⟨A,cp,rfl,hC⟩:=hv.toC;obtain ⟨B,cq,rfl,gd⟩:=hu.toC;clear hv hu hC gd he hl ih;simp only [Nd.kids_mk,Nd.kind_mk,Nd.text_mk,Nd.pos_mk] at *;(have gk:((l.length:Int) != (l'.length:Int))=false:=by rw [D];simp);(have gj:((l.length:Int)==(l'.length:Int))=true:=by rw [D];simp);have ga:=hid D;(have hz:((d:Int)+1==0)=false:=by simp;omega);have O:=((Below.refl w.heap.size w).alloc (Nat.le_refl _) (.cells #[.int .i64 k,.string t,.slice A l.length cp,.int .i64 a] 24)).alloc (by simp) (.cells #[.int .i64 k,.string t,.slice B l'.length cq,.int .i64 a'] 24);have q:=(show aj (w.alloc (.cells #[.int .i64 k,.string t,.slice A l.length cp,.int .i64 a] 24)) w.heap.size 24 #[.int .i64 k,.string t,.slice A l.length cp,.int .i64 a] from aj.new w _ _).alloc (.cells #[.int .i64 k,.string t,.slice B l'.length cq,.int .i64 a'] 24);have U:aj ((w.alloc (.cells #[.int .i64 k,.string t,.slice A l.length cp,.int .i64 a] 24)).alloc (.cells #[.int .i64 k,.string t,.slice B l'.length cq,.int .i64 a'] 24)) (w.heap.size+1) 24 #[.int .i64 k,.string t,.slice B l'.length cq,.int .i64 a']:=aj.new_at (by simp) _ _;clear D;(go_enter Tryz.func14,Tryz.ntmps14);(go_wp2_with fail);go_loopg [7] l.length (fun g1 u7 wr=>∃ (i:Nat),i≤l.length∧l.length-i≤g1∧u7=.int .i64 (i:Int)∧Below w.heap.size w wr∧aj wr w.heap.size 24 #[.int .i64 k,.string t,.slice A l.length cp,.int .i64 a]∧aj wr (w.heap.size+1) 24 #[.int .i64 k,.string t,.slice B l'.length cq,.int .i64 a'])
  case atStart=>exact ⟨0,Nat.zero_le _,by omega,rfl,O,q,U⟩
  case round=>
   clear q U O;obtain ⟨i,hi,hg,rfl,O,q,U⟩:=hrel;obtain ⟨x0,x1,x2,x3,-,-,-,-⟩:=ac q;obtain ⟨y0,y1,y2,y3,-,-,-,-⟩:=ac U;by_cases M:i<l.length
   ·(have z:(i:Int)<(l.length:Int):=by omega);(have N:i<l'.length:=by rw [ga.out];exact M);(have gi:(i:Int)<(l'.length:Int):=by omega);(have h0:(0:Int)≤(i:Int):=by omega);obtain ⟨bp,op,A1,gh,rfl,hp⟩:=tQ (av.below HV.out O) i M;obtain ⟨bq,oq,A2,gg,rfl,hq⟩:=tQ (av.below HU.out O) i N;simp only [Nd.kids_mk] at hp hq;have HC:=hid (fun n:Wd (Below wr.heap.size wr)=>HI.out _ _ l[i] l'[i] n.wd (by omega) (hp.below n.ok).2.2.2.2 (hq.below n.ok).2.2.2.2 (gb.out.get i M N) (HD.out _ (List.getElem_mem M)));have J:∀ n:Wd (Below wr.heap.size wr),C4 n.wd bp (op+i * 4) l[i] A1 gh:=fun n=>hp.below n.ok;have I:∀ n:Wd (Below wr.heap.size wr),C4 n.wd bq (oq+i * 4) l'[i] A2 gg:=fun n=>hq.below n.ok;generalize l[i]=x at *;generalize l'[i]=y at *;have k0:=fun n=>(J n).1;have k1:=fun n=>(J n).2.1;have k2:=fun n=>(J n).2.2.1;have k3:=fun n=>(J n).2.2.2.1;have m0:=fun n=>(I n).1;have m1:=fun n=>(I n).2.1;have m2:=fun n=>(I n).2.2.1;have m3:=fun n=>(I n).2.2.2.1;have kx:∀ n:Wd (Below wr.heap.size wr),n.wd.cell? ⟨w.heap.size,2,none⟩=some (.slice (some ⟨bp,op,none⟩) l.length cp):=fun n=>(n.ok.cell (World.block_lt_of_cell? wr _ x2)).trans x2;have ky:∀ n:Wd (Below wr.heap.size wr),n.wd.cell? ⟨w.heap.size+1,2,none⟩=some (.slice (some ⟨bq,oq,none⟩) l'.length cq):=fun n=>(n.ok.cell (World.block_lt_of_cell? wr _ y2)).trans y2;clear hp hq J I;(go_wp2_with fail);haveI:Nonempty (Wd (Below wr.heap.size wr)):=⟨⟨wr,Below.refl _ _⟩⟩
    refine aw (Below wr.heap.size wr) (by kernel_rfl) (by kernel_rfl) (Below.refl _ _).drew ?_;(repeat (go_big_quiet_step ((go_at_call 14;rename_i n;refine (HC.out n).mono ?_;rintro e w' ⟨rfl,hb⟩;exact ⟨rfl,⟨w',n.ok.trans (hb.mono n.ok.size)⟩,rfl⟩))));refine wpQuiet_nil ?_;intro n;have ge:=O.trans (n.ok.mono O.size);have b3:=q.below n.ok q.lt;have b4:=U.below n.ok U.lt;clear q U HC k0 k1 k2 k3 x0 x1 x2 x3 m0 m1 m2 m3 y0 y1 y2 y3 kx ky;(go_wp2_with fail);go_roundg (l.length-(i+1))
    case measure=>omega
    case rel=>exact ⟨i+1,by omega,Nat.le_refl _,by go_num,ge,b3,b4⟩
   ·(have z:¬ (i:Int)<(l.length:Int):=by omega);(go_wp2_with fail);go_ret;exact ⟨rfl,O⟩
end
end Go.Proofs.YtiebcdeafofgdaaGreatDoor
