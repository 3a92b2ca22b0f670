/- A part of the seat's proofs over the abstract machine. No condition. -/
import Derived.Test.YtioampofolilnaaGreatWC
set_option linter.unusedSimpArgs false
set_option linter.unusedVariables false
set_option maxRecDepth 100000
set_option maxRecDepth 100000
namespace Go.Proofs.YtioampofolilnaaGreat.M
open Go Go.Mini
section
open Opd renaming tmp → t, lit → l
open SOp renaming mv → m, call → c, load → d, pick → k, fldA → f, bin → b, idxA → x, store → e, nilc → z, len → g
open SCode renaming seq → q, reg → r, cond → i, block → o
open Option renaming some → s, none → n
def f_palinodelaw22_DiffToggles : SFunc := { ntmps := 138, results := [.tmp 6], body :=
(q (r n [⟨s 6,m (l (.bool false)),n,[]⟩])
(q (q (r n [⟨s 20,c (l (.fn 41 [])) [],n,[]⟩,⟨s 21,.not (t 20),n,[0]⟩])
(i (t 21) (q (r n [⟨s 6,m (l (.bool false)),n,[]⟩])
.ret) .skip))
(q (q (r n [⟨s 22,m (t 0),n,[]⟩,⟨s 23,.lenS (t 22),n,[0]⟩,⟨s 24,b .lss .int (t 23) (l (.int .i64 1)),n,[1]⟩,⟨s 25,m (t 24),n,[2]⟩,⟨s 26,m (t 0),s (25,false),[3]⟩,⟨s 27,.lenS (t 26),s (25,false),[4,3]⟩,⟨s 28,b .gtr .int (t 27) (l (.int .i64 40)),s (25,false),[5,3]⟩,⟨s 29,k (t 25) (l (.bool true)) (t 28),n,[3,6]⟩,⟨s 30,m (t 29),n,[7,3]⟩,⟨s 31,m (t 1),s (30,false),[8]⟩,⟨s 32,.lenS (t 31),s (30,false),[9,8]⟩,⟨s 33,b .gtr .int (t 32) (l (.int .i64 40)),s (30,false),[10,8]⟩,⟨s 34,k (t 30) (l (.bool true)) (t 33),n,[8,11]⟩])
(i (t 34) (q (r n [⟨s 6,m (l (.bool true)),n,[]⟩])
.ret) .skip))
(q (q (r n [⟨s 7,m (l (.int .i64 0)),n,[]⟩])
(o 0 (.loop (q (q (r n [⟨s 35,m (t 7),n,[]⟩,⟨s 36,m (t 0),n,[]⟩,⟨s 37,.lenS (t 36),n,[1]⟩,⟨s 38,b .lss .int (t 35) (t 37),n,[0,2]⟩])
(i (t 38) .skip (.exit 0)))
(q (o 1 (q (r n [⟨s 41,m (t 0),n,[]⟩,⟨s 42,m (t 7),n,[]⟩,⟨s 43,.idxS (t 41) (t 42),n,[0,1]⟩,⟨s 44,b .geq .int (t 43) (l (.int .u8 128)),n,[2]⟩])
(i (t 44) (q (r n [⟨s 6,m (l (.bool true)),n,[]⟩])
.ret) .skip)))
(r n [⟨s 39,m (t 7),n,[]⟩,⟨s 40,b .add .int (t 39) (l (.int .i64 1)),n,[0]⟩,⟨s 7,m (t 40),n,[1,0,1]⟩]))))))
(q (q (r n [⟨s 8,m (l (.int .i64 0)),n,[]⟩])
(o 2 (.loop (q (q (r n [⟨s 45,m (t 8),n,[]⟩,⟨s 46,m (t 1),n,[]⟩,⟨s 47,.lenS (t 46),n,[1]⟩,⟨s 48,b .lss .int (t 45) (t 47),n,[0,2]⟩])
(i (t 48) .skip (.exit 2)))
(q (o 3 (q (r n [⟨s 51,m (t 1),n,[]⟩,⟨s 52,m (t 8),n,[]⟩,⟨s 53,.idxS (t 51) (t 52),n,[0,1]⟩,⟨s 54,b .geq .int (t 53) (l (.int .u8 128)),n,[2]⟩])
(i (t 54) (q (r n [⟨s 6,m (l (.bool true)),n,[]⟩])
.ret) .skip)))
(r n [⟨s 49,m (t 8),n,[]⟩,⟨s 50,b .add .int (t 49) (l (.int .i64 1)),n,[0]⟩,⟨s 8,m (t 50),n,[1,0,1]⟩]))))))
(q (r n [⟨s 55,m (t 2),n,[]⟩,⟨s 56,.cint .i64 (t 55),n,[0]⟩,⟨s 57,m (t 0),n,[]⟩,⟨s 58,.lenS (t 57),n,[2]⟩,⟨s 59,b .rem .int (t 56) (t 58),n,[1,3]⟩,⟨s 9,m (t 59),n,[4,0,1,2,3,4]⟩])
(q (r n [⟨s 60,c (l (.fn 16 [])) [],n,[]⟩,⟨s 10,m (t 60),n,[0,0,0]⟩])
(q (r n [⟨s 61,m (t 10),n,[]⟩,⟨s 62,m (t 0),n,[]⟩,⟨s 63,.build [(.int .i64 0),(.int .i64 0),(.str [])] [(2,1,(t 62))],n,[1]⟩,⟨s 64,.bslc 3 [(.int .i64 0),(.int .i64 0),(.str [])] 1 [(0,3,(t 63))],n,[2]⟩,⟨s 65,c (l (.fn 22 [])) [(t 61),(l (.int .i64 0)),(l (.int .i64 1)),(l (.int .i64 0)),(t 64)],n,[0,3]⟩])
(q (r n [⟨s 66,m (t 10),n,[]⟩,⟨s 67,m (t 9),n,[]⟩,⟨s 68,m (t 9),n,[]⟩,⟨s 69,b .add .int (t 68) (l (.int .i64 1)),n,[2]⟩,⟨s 70,m (t 1),n,[]⟩,⟨s 71,.build [(.int .i64 0),(.int .i64 0),(.str [])] [(0,1,(t 67)),(1,1,(t 69)),(2,1,(t 70))],n,[1,3,4]⟩,⟨s 72,.bslc 3 [(.int .i64 0),(.int .i64 0),(.str [])] 1 [(0,3,(t 71))],n,[5]⟩,⟨s 73,c (l (.fn 22 [])) [(t 66),(l (.int .i64 1)),(l (.int .i64 2)),(l (.int .i64 0)),(t 72)],n,[0,6]⟩])
(q (r n [⟨s 75,m (t 10),n,[]⟩,⟨s 76,c (l (.fn 40 [])) [(t 75),(l (.int .i64 2))],n,[0]⟩,⟨s 74,m (t 76),n,[1]⟩,⟨s 77,.ext (t 74) 0,n,[2]⟩,⟨s 78,.ext (t 74) 1,n,[2]⟩,⟨s 11,m (t 77),n,[3,1,0,1,2,3]⟩,⟨s 12,m (t 78),n,[4,5,0,1,2,3,4,5]⟩])
(q (r n [⟨s 80,m (t 10),n,[]⟩,⟨s 81,c (l (.fn 44 [])) [(t 80),(l (.int .i64 2)),(l (.int .i64 3))],n,[0]⟩,⟨s 79,m (t 81),n,[1]⟩,⟨s 82,.ext (t 79) 0,n,[2]⟩,⟨s 83,.ext (t 79) 1,n,[2]⟩,⟨s 13,.alloc [(.int .i64 0),.nils],n,[]⟩,⟨n,e 2 (t 13) (t 82),n,[5,3,1,0,1,2,3,5]⟩,⟨s 14,m (t 83),n,[4,6,0,1,2,3,4,5,6]⟩])
(q (r n [⟨s 85,m (t 10),n,[]⟩,⟨s 86,c (l (.fn 47 [])) [(t 85),(l (.int .i64 2))],n,[0]⟩,⟨s 84,m (t 86),n,[1]⟩,⟨s 87,.ext (t 84) 0,n,[2]⟩,⟨s 88,.ext (t 84) 1,n,[2]⟩,⟨s 89,.ext (t 84) 2,n,[2]⟩,⟨s 15,m (t 87),n,[3,1,0,1,2,3]⟩,⟨s 16,m (t 88),n,[4,6,0,1,2,3,4,6]⟩,⟨s 17,m (t 89),n,[5,7,0,1,2,3,4,5,6,7]⟩])
(q (r n [⟨s 91,m (t 10),n,[]⟩,⟨s 92,c (l (.fn 44 [])) [(t 91),(l (.int .i64 1)),(l (.int .i64 3))],n,[0]⟩,⟨s 90,m (t 92),n,[1]⟩,⟨s 93,.ext (t 90) 0,n,[2]⟩,⟨s 94,.ext (t 90) 1,n,[2]⟩,⟨s 18,.alloc [(.int .i64 0),.nils],n,[]⟩,⟨n,e 2 (t 18) (t 93),n,[5,3,1,0,1,2,3,5]⟩,⟨s 19,m (t 94),n,[4,6,0,1,2,3,4,5,6]⟩])
(q (r (s [0,1,3,7,15,31,63,127,255,511,1023,2047,4095,8191,4095,20479,65535,131071,262143,524287,1048575,2097151,4194303,8388607,16777215,33554431,67108863,134217727,134217727,402653183,1073741823,2147483647,4294967295,8589934591,17179869183,34359738367,68719476735,137438953471,137438953471,412316860415,962072674303,2199023255551,4398046511103,8796093022207]) [⟨s 95,m (t 12),n,[]⟩,⟨s 96,b .eql .int (t 95) (l (.int .i64 0)),n,[0]⟩,⟨s 97,m (t 96),n,[1]⟩,⟨s 98,m (t 14),s (97,true),[2]⟩,⟨s 99,b .eql .int (t 98) (l (.int .i64 0)),s (97,true),[3,2]⟩,⟨s 100,k (t 97) (t 99) (l (.bool false)),n,[2,4]⟩,⟨s 101,m (t 100),n,[5,2]⟩,⟨s 102,d (s 2) (t 13),s (101,true),[6]⟩,⟨s 103,c (l (.fn 51 [])) [(t 102)],s (101,true),[7,6,6]⟩,⟨s 104,b .eql .int (t 103) (l (.int .i64 1)),s (101,true),[8,6]⟩,⟨s 105,k (t 101) (t 104) (l (.bool false)),n,[6,9]⟩,⟨s 106,m (t 105),n,[10,8]⟩,⟨s 107,d (s 2) (t 13),s (106,true),[11]⟩,⟨s 108,c (l (.fn 52 [])) [(t 107)],s (106,true),[12,11,11]⟩,⟨s 109,m (t 1),s (106,true),[11]⟩,⟨s 110,.lenS (t 109),s (106,true),[14,11]⟩,⟨s 111,b .eql .int (t 108) (t 110),s (106,true),[13,15,11]⟩,⟨s 112,k (t 106) (t 111) (l (.bool false)),n,[11,16]⟩,⟨s 113,m (t 112),n,[17,13]⟩,⟨s 114,m (t 17),s (113,true),[18]⟩,⟨s 115,b .eql .int (t 114) (l (.int .i64 0)),s (113,true),[19,18]⟩,⟨s 116,k (t 113) (t 115) (l (.bool false)),n,[18,20]⟩,⟨s 117,m (t 116),n,[21,18]⟩,⟨s 118,m (t 15),s (117,true),[22]⟩,⟨s 119,b .eql .int (t 118) (l (.int .i64 1)),s (117,true),[23,22]⟩,⟨s 120,k (t 117) (t 119) (l (.bool false)),n,[22,24]⟩,⟨s 121,m (t 120),n,[25,22]⟩,⟨s 122,m (t 16),s (121,true),[26]⟩,⟨s 123,m (t 1),s (121,true),[26]⟩,⟨s 124,.lenS (t 123),s (121,true),[28,26]⟩,⟨s 125,b .eql .int (t 122) (t 124),s (121,true),[27,29,26]⟩,⟨s 126,k (t 121) (t 125) (l (.bool false)),n,[26,30]⟩,⟨s 127,m (t 126),n,[31,26]⟩,⟨s 128,m (t 19),s (127,true),[32]⟩,⟨s 129,b .eql .int (t 128) (l (.int .i64 0)),s (127,true),[33,32]⟩,⟨s 130,k (t 127) (t 129) (l (.bool false)),n,[32,34]⟩,⟨s 131,m (t 130),n,[35,32]⟩,⟨s 132,d (s 2) (t 18),s (131,true),[36]⟩,⟨s 133,m (t 0),s (131,true),[36]⟩,⟨s 134,.lenS (t 133),s (131,true),[38,36]⟩,⟨s 135,c (l (.fn 56 [])) [(t 134)],s (131,true),[39,36,36]⟩,⟨s 136,c (l (.fn 55 [])) [(t 132),(t 135)],s (131,true),[37,40,40,36]⟩,⟨s 137,k (t 131) (t 136) (l (.bool false)),n,[36,41]⟩,⟨s 6,m (t 137),n,[42,41,0,1,2,3,4,5,6,7,8,9,10,11,12,13,14,15,16,17,18,19,20,21,22,23,24,25,26,27,28,29,30,31,32,33,34,35,36,37,38,39,40,41,42]⟩])
.ret))))))))))))))}
theorem c_palinodelaw22_DiffToggles : cFunc Tryz.prog n_palinodelaw22_DiffToggles = some f_palinodelaw22_DiffToggles := by kernel_rfl
end
end Go.Proofs.YtioampofolilnaaGreat.M
namespace Go.Proofs.YtioampofolilnaaGreat.M
open Go Go.Mini
attribute [local congr] go1_congr goM_congr goG_congr goV_congr drawwp_congr Xwp_congr
theorem bfold_eq {frm to:Int} {uf ut:List Int} {l:List Atom} (hcp:∀ a∈l,a.text≠[]) (hv:∀ a∈l,visible frm uf a=visible to ut a):∀ i,i≤l.length→bFold frm to uf ut (l.take i)=(mkC [] 0 ((bFold frm to uf ut (l.take i)).2:Nat),(bFold frm to uf ut (l.take i)).2)
 | 0,_=>by simp [bFold,mkC]
 | i+1,hi=>by
  have hlt:i<l.length:=by omega
  have ih:=bfold_eq hcp hv i (by omega)
  have ha:=hcp _ (List.getElem_mem hlt)
  have hva:=hv _ (List.getElem_mem hlt)
  rw [bFold_take (List.getElem?_eq_getElem hlt)]
  generalize l[i]=a at ha hva
  generalize (bFold frm to uf ut (l.take i)).2=p at ih
  rw [ih,hva]
  have hla:0<a.text.length:=List.length_pos_iff.2 ha
  cases w:visible to ut a
  ·simp [bStep]
  ·simp only [bStep,Bool.and_self,if_true]
   congr 1
   by_cases hp:p=0
   ·subst hp;simp [mkC]
   ·have h1:¬(0:Int)=(p:Int):=by omega
    have h2:¬(p:Int)=((p+a.text.length:Nat):Int):=by omega
    have h3:¬(0:Int)=((p+a.text.length:Nat):Int):=by omega
    have e1:mkC [] 0 (p:Int)=[⟨0,p,[]⟩]:=by simp only [mkC,if_neg h1]
    rw [e1]
    simp only [mkC,if_neg h2,if_neg h3]
    simp [isCp]
theorem betw_eq {E:Eng} (h:E.Ok) {x y:Int} (hx:E.R.live x=true) (hy:E.R.live y=true) (hv:∀ a∈E.l,visible x (E.R.undone x) a=visible y (E.R.undone y) a):betwE E x y=(⟨((E.text x).length:Nat),(mkC [] 0 ((E.text x).length:Nat)).reverse⟩,0):=by
 have hs:=bfold_eq (fun a ha=>(h.txt a ha).1) hv E.l.length (Nat.le_refl _)
 have h2:=(bst_ok h.txt h.len x y (E.R.undone x) (E.R.undone y) E.l.length (Nat.le_refl _)).2
 rw [List.take_length] at hs h2
 have hst:E.bst x y=(mkC [] 0 ((E.text x).length:Nat),(E.text x).length):=by
  show bFold _ _ _ _ _=_
  rw [hs,h2];rfl
 have hlen:=mkC_len [] 0 ((E.text x).length:Nat)
 rw [betwE,if_pos (by simp [hx,hy]),hst,if_pos (by simp only;simp at hlen;omega)]
theorem bfold_few {frm to:Int} {uf ut:List Int} {l:List Atom} (hcp:∀ a∈l,a.text≠[]):∀ i,i≤l.length→(bFold frm to uf ut (l.take i)).1.length≤(atomsText to ut (l.take i)).length
 | 0,_=>by simp [bFold]
 | i+1,hi=>by
  have hlt:i<l.length:=by omega
  have ih:=bfold_few (frm:=frm) (to:=to) (uf:=uf) (ut:=ut) hcp i (by omega)
  have ha:=hcp _ (List.getElem_mem hlt)
  rw [bFold_take (List.getElem?_eq_getElem hlt),take_text hlt]
  generalize l[i]=a at ha
  generalize bFold frm to uf ut (l.take i)=st at ih
  have hla:0<a.text.length:=List.length_pos_iff.2 ha
  rw [List.length_append]
  have k1:=mkC_len st.1 st.2 ((st.2+a.text.length:Nat):Int)
  have k2:=mkP_len st.1 a.text
  rw [Int.natCast_add] at k1
  rcases Bool.eq_false_or_eq_true (visible frm uf a) with w | w <;> rcases Bool.eq_false_or_eq_true (visible to ut a) with is | is <;> simp [bStep,w,is] <;> omega
theorem sumIf_each {p:Atom→Bool}:∀ {l:List Atom},(∀ a∈l,p a=true∧a.text.length=1)→sumIf p l=l.length
 | [],_=>rfl
 | a::l,h=>by
  have h1:=h a (by simp)
  rw [sumIf_cons,if_pos h1.1,h1.2,sumIf_each fun b hb=>h b (List.mem_cons_of_mem _ hb),List.length_cons];omega
theorem sumIf_no {p:Atom→Bool}:∀ {l:List Atom},(∀ a∈l,p a=false)→sumIf p l=0
 | [],_=>rfl
 | a::l,h=>by
  rw [sumIf_cons,h a (by simp),sumIf_no fun b hb=>h b (List.mem_cons_of_mem _ hb)];rfl
def asR3:Revs:=⟨[[],[],[],[2]],0,[1,2],[]⟩
def asT (s:List UInt8) (a b:Nat) (t:List UInt8):Eng:=⟨asL2 s a b t,asR3⟩
section
variable {s t:List UInt8} {a b:Nat}
theorem as_whole2 (hs:Asc s) (ht:Asc t) (hab:a≤b) (hb:b≤s.length) (hl:s.length+t.length≤4000):(asE2 s a b t).Whole:=(Eng.Whole.new.edit (as_edit1 hs (by omega))).edit (as_edit2 hs ht hab hb hl)
theorem as_toggle2 (hs:Asc s) (ht:Asc t) (hab:a≤b) (hb:b≤s.length) (hl:s.length+t.length≤4000):toggleE (asE2 s a b t) 2=(asT s a b t,3,0):=by
 have hW:=as_whole2 hs ht hab hb hl
 have htg:toggleR (asE2 s a b t).R 2=(asR3,3,0):=by show toggleR asR2 2=_;kernel_rfl
 rw [toggleE,htg,if_neg (by simp),if_neg (by simp only [Eng.text];exact Nat.not_lt.2 (short_text hW.ok.len hW.ok.txt _ _))]
 rfl
theorem asL2_mem {x:Atom} (h:x∈asL2 s a b t):(∃ c,x=⟨[c],1,1,0,[]⟩)∨(∃ c,x=⟨[c],2,2,0,[]⟩)∨∃ c,x=⟨[c],1,1,0,[⟨2,2⟩]⟩:=by
 have mA:∀ {rv g:Int} {s:List UInt8} {x:Atom},x∈atomsA rv g s→∃ c,x=⟨[c],rv,g,0,[]⟩:=by
  intro rv g s x h
  rw [atomsA,List.mem_map] at h;obtain ⟨c,_,rfl⟩:=h;exact ⟨c,rfl⟩
 simp only [asL2,List.mem_append] at h
 rcases h with ((h | h) | h) | h
 ·exact .inl (mA (List.mem_of_mem_take h))
 ·exact .inr (.inl (mA h))
 ·rw [List.mem_map] at h
  obtain ⟨y,hy,rfl⟩:=h
  obtain ⟨c,rfl⟩:=mA (List.mem_of_mem_drop (List.mem_of_mem_take hy))
  exact .inr (.inr ⟨c,rfl⟩)
 ·exact .inl (mA (List.mem_of_mem_drop h))
theorem as_sums (hab:a≤b) (hb:b≤s.length):sumIf (cameB 2 3 [] [2]) (asL2 s a b t)=b - a∧sumIf (wentB 2 3 [] [2]) (asL2 s a b t)=t.length∧sumIf (visible 1 []) (asL2 s a b t)=s.length:=by
 have mA:∀ {rv g:Int} {s:List UInt8} {x:Atom},x∈atomsA rv g s→∃ c,x=⟨[c],rv,g,0,[]⟩:=by
  intro rv g s x h
  rw [atomsA,List.mem_map] at h;obtain ⟨c,_,rfl⟩:=h;exact ⟨c,rfl⟩
 have m1:∀ x∈(atomsA 1 1 s).take a,∃ b,x=⟨[b],1,1,0,[]⟩:=fun x hx=>mA (List.mem_of_mem_take hx)
 have m2:∀ x∈(((atomsA 1 1 s).drop a).take (b - a)).map (cutA ⟨2,2⟩),∃ b,x=⟨[b],1,1,0,[⟨2,2⟩]⟩:=fun x hx=>by
  rw [List.mem_map] at hx
  obtain ⟨y,hy,rfl⟩:=hx
  obtain ⟨c,rfl⟩:=mA (List.mem_of_mem_drop (List.mem_of_mem_take hy))
  exact ⟨c,rfl⟩
 have m3:∀ x∈(atomsA 1 1 s).drop b,∃ b,x=⟨[b],1,1,0,[]⟩:=fun x hx=>mA (List.mem_of_mem_drop hx)
 have m4:∀ x∈atomsA 2 2 t,∃ b,x=⟨[b],2,2,0,[]⟩:=fun x hx=>mA hx
 have l1:((atomsA 1 1 s).take a).length=a:=by rw [List.length_take,atomsA_len];omega
 have l2:((((atomsA 1 1 s).drop a).take (b - a)).map (cutA ⟨2,2⟩)).length=b - a:=by rw [List.length_map,List.length_take,List.length_drop,atomsA_len];omega
 have l3:((atomsA 1 1 s).drop b).length=s.length - b:=by rw [List.length_drop,atomsA_len]
 have l4:(atomsA 2 2 t).length=t.length:=atomsA_len _ _ _
 simp only [asL2]
 generalize (atomsA 1 1 s).take a=x1 at m1 l1 ⊢
 generalize (((atomsA 1 1 s).drop a).take (b - a)).map (cutA ⟨2,2⟩)=x2 at m2 l2 ⊢
 generalize (atomsA 1 1 s).drop b=x3 at m3 l3 ⊢
 generalize atomsA 2 2 t=x4 at m4 l4 ⊢
 refine ⟨?_,?_,?_⟩
 ·rw [sumIf_app,sumIf_app,sumIf_app,sumIf_no (l:=x1) (fun x hx=>by obtain ⟨c,rfl⟩:=m1 x hx;rfl),sumIf_no (l:=x4) (fun x hx=>by obtain ⟨c,rfl⟩:=m4 x hx;rfl),sumIf_each (l:=x2) (fun x hx=>by obtain ⟨c,rfl⟩:=m2 x hx;exact ⟨rfl,rfl⟩),sumIf_no (l:=x3) (fun x hx=>by obtain ⟨c,rfl⟩:=m3 x hx;rfl)];omega
 ·rw [sumIf_app,sumIf_app,sumIf_app,sumIf_no (l:=x1) (fun x hx=>by obtain ⟨c,rfl⟩:=m1 x hx;rfl),sumIf_each (l:=x4) (fun x hx=>by obtain ⟨c,rfl⟩:=m4 x hx;exact ⟨rfl,rfl⟩),sumIf_no (l:=x2) (fun x hx=>by obtain ⟨c,rfl⟩:=m2 x hx;rfl),sumIf_no (l:=x3) (fun x hx=>by obtain ⟨c,rfl⟩:=m3 x hx;rfl)];omega
 ·rw [sumIf_app,sumIf_app,sumIf_app,sumIf_each (l:=x1) (fun x hx=>by obtain ⟨c,rfl⟩:=m1 x hx;exact ⟨rfl,rfl⟩),sumIf_no (l:=x4) (fun x hx=>by obtain ⟨c,rfl⟩:=m4 x hx;rfl),sumIf_each (l:=x2) (fun x hx=>by obtain ⟨c,rfl⟩:=m2 x hx;exact ⟨rfl,rfl⟩),sumIf_each (l:=x3) (fun x hx=>by obtain ⟨c,rfl⟩:=m3 x hx;exact ⟨rfl,rfl⟩)];omega
end
set_option maxHeartbeats 8000000 in
theorem diffToggles_fspec (W:World) (s t:List UInt8) (at':Int) (ha:0≤at'∧at'<256) (hs0:s.length≤maxLen) (ht0:t.length≤maxLen):FSpec Tryz.prog n_palinodelaw22_DiffToggles [.str s,.str t,.int .u8 at'] (Heap.bare W (cellsOf W)) fun v s=>v= .bool true∧s.W=W:=by
 refine fspec_of_awp mixed c_palinodelaw22_DiffToggles (tl rfl) ?_
 unfold f_palinodelaw22_DiffToggles
 simp only [↓evd,evu,evf,implies_true,reduceCtorEq,Nat.reduceAdd]
 refine MSpec.of (known22_call _ rfl) ?_
 by_cases h1:(s.length:Int)<1
 ·simp only [↓evd,evu,evf,implies_true,reduceCtorEq,↓reduceIte,Nat.reduceLT,evz,h1]
 by_cases h2:(40:Int)<(s.length:Int)
 ·simp only [↓evd,evu,evf,implies_true,reduceCtorEq,↓reduceIte,Nat.reduceLT,evz,h1,h2]
 by_cases h3:(40:Int)<(t.length:Int)
 ·simp only [↓evd,evu,evf,implies_true,reduceCtorEq,↓reduceIte,Nat.reduceLT,evz,h1,h2,h3]
 simp only [↓evd,evu,evf,implies_true,reduceCtorEq,↓reduceIte,Nat.reduceLT,evz,h1,h2,h3]
 refine awp_loop (fun m fr τ=>∃ (i:Nat),m+i=s.length∧fr.get 0= .str s∧fr.get 1= .str t∧fr.get 2= .int .u8 at'∧fr.get 7= .int .i64 (i:Nat)∧(∀ b∈s.take i,b.toNat<128)∧τ=Heap.bare W (cellsOf W)) ?_ (m:=s.length) ?_
 ·rintro m fr τ ⟨i,hi,e0,e1,e2,e7,hA,hτ⟩
  by_cases hlt:i<s.length
  ·have hlt':(i:Int)<(s.length:Int):=by omega
   have hw:=wrap_succ (i:=i) (by omega)
   have hg:s[i]? =some s[i]:=List.getElem?_eq_getElem hlt
   have htk:=List.take_succ_eq_append_getElem hlt
   generalize s[i]=b at hg htk
   by_cases hb:(128:Int)≤(b.toNat:Int)
   ·simp only [↓evd,evu,evf,implies_true,reduceCtorEq,↓reduceIte,Nat.reduceLT,evz,e0,e7,hlt',hg,hb]
    rw [hτ];rfl
   ·simp only [↓evd,evu,evf,implies_true,reduceCtorEq,↓reduceIte,Nat.reduceLT,evz,e0,e1,e2,e7,hlt',hg,hb,hw]
    refine ⟨m - 1,by omega,i+1,by omega,rfl,?_,hτ⟩
    rw [htk]
    intro c hc
    rcases List.mem_append.1 hc with hc | hc
    ·exact hA c hc
    ·rw [List.mem_singleton] at hc;subst hc;omega
  ·have hlt':¬(i:Int)<(s.length:Int):=by omega
   have hAs:Asc s:=by rw [List.take_of_length_le (by omega)] at hA;exact hA
   simp only [↓evd,evu,evf,implies_true,reduceCtorEq,↓reduceIte,Nat.reduceLT,evz,e0,e7,hlt']
   clear e7 hA hi
   refine awp_loop (fun m fr τ=>∃ (i:Nat),m+i=t.length∧fr.get 0= .str s∧fr.get 1= .str t∧fr.get 2= .int .u8 at'∧fr.get 8= .int .i64 (i:Nat)∧(∀ b∈t.take i,b.toNat<128)∧τ=Heap.bare W (cellsOf W)) ?_ (m:=t.length) ?_
   ·clear e0 e1 e2 hτ
    rintro m fr τ ⟨i,hi,e0,e1,e2,e8,hA,hτ⟩
    by_cases hlt:i<t.length
    ·have hlt':(i:Int)<(t.length:Int):=by omega
     have hw:=wrap_succ (i:=i) (by omega)
     have hg:t[i]? =some t[i]:=List.getElem?_eq_getElem hlt
     have htk:=List.take_succ_eq_append_getElem hlt
     generalize t[i]=b at hg htk
     by_cases hb:(128:Int)≤(b.toNat:Int)
     ·simp only [↓evd,evu,evf,implies_true,reduceCtorEq,↓reduceIte,Nat.reduceLT,evz,e1,e8,hlt',hg,hb]
      rw [hτ];rfl
     ·simp only [↓evd,evu,evf,implies_true,reduceCtorEq,↓reduceIte,Nat.reduceLT,evz,e0,e1,e2,e8,hlt',hg,hb,hw]
      refine ⟨m - 1,by omega,i+1,by omega,rfl,?_,hτ⟩
      rw [htk]
      intro c hc
      rcases List.mem_append.1 hc with hc | hc
      ·exact hA c hc
      ·rw [List.mem_singleton] at hc;subst hc;omega
    ·have hlt':¬(i:Int)<(t.length:Int):=by omega
     have hAt:Asc t:=by rw [List.take_of_length_le (by omega)] at hA;exact hA
     have hsl:s.length≤40:=by omega
     have htl:t.length≤40:=by omega
     obtain ⟨p,hp,hpl,_⟩:=mod_u8 (x:=at') (c:=(s.length:Int)) ha.1 (by omega) (by omega)
     have hwa:IntKind.i64.wrap at'=at':=wrap_id (by omega) (by omega)
     have hne:((s.length:Int)=0)=False:=eq_false (by omega)
     have hw1:IntKind.i64.wrap ((p:Int)+1)=((p+1:Nat):Int):=wrap_succ (by omega)
     have g1:=as_edit1 hAs (by omega)
     have g2:=as_edit2 (a:=p) (b:=p+1) hAs hAt (by omega) (by omega) (by omega)
     have g3:=as_toggle2 (a:=p) (b:=p+1) hAs hAt (by omega) (by omega) (by omega)
     have hWT:(asT s p (p+1) t).Whole:=(as_whole2 (a:=p) (b:=p+1) hAs hAt (by omega) (by omega) (by omega)).toggle g3
     obtain ⟨u1,u2,u3⟩:=as_sums (s:=s) (t:=t) (a:=p) (b:=p+1) (by omega) (by omega)
     have hl1:(asT s p (p+1) t).R.live 1=true:=rfl
     have hl2:(asT s p (p+1) t).R.live 2=true:=rfl
     have hl3:(asT s p (p+1) t).R.live 3=true:=rfl
     have un1:(asT s p (p+1) t).R.undone 1=[]:=rfl
     have un2:(asT s p (p+1) t).R.undone 2=[]:=rfl
     have un3:(asT s p (p+1) t).R.undone 3=[2]:=rfl
     have hhd:(((asT s p (p+1) t).R.head:Nat):Int)=3:=rfl
     have hel:(asT s p (p+1) t).l=asL2 s p (p+1) t:=rfl
     have hv13:∀ a∈(asT s p (p+1) t).l,visible 1 ((asT s p (p+1) t).R.undone 1) a=visible 3 ((asT s p (p+1) t).R.undone 3) a:=by
      intro a ha
      rw [un1,un3]
      rcases asL2_mem ha with ⟨c,rfl⟩ | ⟨c,rfl⟩ | ⟨c,rfl⟩ <;> rfl
     have hx1:((asT s p (p+1) t).text 1).length=s.length:=by rw [Eng.text,text_sum,un1,hel,u3]
     have hx3:(atomsText 3 [2] (asL2 s p (p+1) t)).length=s.length:=by
      have:=atomsText_congr hv13
      rw [un1,un3,hel] at this
      rw [← this,text_sum,u3]
     have hb13:=betw_eq hWT.ok hl1 hl3 hv13
     rw [hx1] at hb13
     have hfew:=bfold_few (l:=asL2 s p (p+1) t) (frm:=2) (to:=3) (uf:=[]) (ut:=[2]) (fun a ha=>(hWT.ok.txt a ha).1) (asL2 s p (p+1) t).length (Nat.le_refl _)
     rw [List.take_length,hx3] at hfew
     have hst:(asT s p (p+1) t).bst 2 3=bFold 2 3 [] [2] (asL2 s p (p+1) t):=rfl
     have hb23:∃ d,betwE (asT s p (p+1) t) 2 3=(d,0):=⟨_,by rw [betwE,if_pos (by simp [hl2,hl3]),hst,if_pos (by omega)]⟩
     obtain ⟨d,hd⟩:=hb23
     have hB:=betw_ok hWT.ok hd
     have hput:putL d.els=1:=by rw [hB.put,un2,un3,hel,u1];omega
     have hdrop:d.base - keptL d.els=(t.length:Int):=by
      have:=kept_went (asT s p (p+1) t) 2 3
      rw [hB.base,hB.kept]
      rw [un2,un3,hel] at this ⊢
      rw [u2] at this
      omega
     have hsin:sinceE (asT s p (p+1) t) 2=(1,t.length,0):=by
      rw [sinceE,if_pos hl2,hhd,un2,un3,hel,u1,u2,Nat.add_sub_cancel_left]
     clear u1 u2 u3 un1 un2 un3 hv13 hx1 hx3 hfew hst hel hhd
     generalize asT s p (p+1) t=E at *
     have A1:=fun ρ=>adds_call ρ d hB.ok
     have A2:=fun ρ=>drops_call ρ d hB.ok
     rw [hput] at A1
     rw [hdrop] at A2
     have A3:=fun ρ=>keepD_call ρ s.length (by omega)
     have hml:=mkC_len [] 0 (s.length:Nat)
     have A4:=fun ρ=>dsame_call ρ ⟨(s.length:Nat),(mkC [] 0 (s.length:Nat)).reverse⟩ (by simp only [List.length_reverse];simp at hml;omega)
     have q1:=fun ρ fp (h:IsEng ρ 0 E fp)=>between_call h 2 3
     simp only [eDelta,eChgs] at A1 A2 A3 A4
     generalize hkk:List.map eChg (mkC [] 0 (s.length:Nat)).reverse=kk at A3 A4
     subst hτ
     simp only [↓evd,evu,evf,implies_true,reduceCtorEq,↓reduceIte,Nat.reduceLT,evz,e0,e1,e2,e8,hlt',hwa,hne,hp]
     refine (enew_at _ rfl).mono ?_
     rintro v τ0 ⟨k,fp0,rfl,h0,_,kk0⟩
     simp only [↓evd,evu,evf,implies_true,reduceCtorEq,↓reduceIte,Nat.reduceAdd,Nat.reduceLT,evz,e0]
     refine (eedit_lit h0 (q:=1) rfl (by simp) (by intro c hc;simp at hc;subst hc;simp only;omega) g1).mono ?_
     rintro v τ1 ⟨rfl,fp1,hE1,kk1,_⟩
     simp only [↓evd,evu,evf,implies_true,reduceCtorEq,↓reduceIte,Nat.reduceAdd,Nat.reduceLeDiff,Nat.reduceLT,evz,e1,hw1]
     refine (eedit_lit hE1 (q:=1) rfl (by simp) (by intro c hc;simp at hc;subst hc;simp only;omega) g2).mono ?_
     rintro v τ2 ⟨rfl,fp2,hE2,kk2,_⟩
     simp only [↓evd,evu,evf,implies_true,reduceCtorEq,↓reduceIte,Nat.reduceLT,evz]
     refine (etoggle_at hE2 g3).mono ?_
     rintro v τ3 ⟨rfl,fp3,hE3,kk3,_⟩
     have hWo:τ3.W=W:=kk3.1.trans (kk2.1.trans (kk1.1.trans kk0.1))
     have q1:=between_call hE3 2 3
     rw [hd] at q1
     have hE4:=hE3.keep ((Keep.refl [] _).junk (.cells [.int .i64 0,.nils] none) (.cells [.int .i64 d.base,.fsl 3 (d.els.map eChg)] none)) (fun y _=>by simp)
     have q2:=since_call hE4 2
     rw [hsin] at q2
     have q3:=between_call hE4 1 3
     rw [hb13] at q3
     have n1:(τ3.next+1=τ3.next)=False:=eq_false (by omega)
     have n2:(τ3.next=τ3.next+1)=False:=eq_false (by omega)
     have b0:((0:Int)==0)=true:=rfl
     have b1:(((1:Nat):Int)==1)=true:=rfl
     have be:∀ x:Int,(x==x)=true:=by intro x;simp
     simp only [eDelta,eChgs,hkk] at q1 q3
     simp only [↓evd,evu,evf,implies_true,reduceCtorEq,Nat.reduceEqDiff,↓reduceIte,Nat.reduceLT,evz]
     refine MSpec.of q1 ?_
     simp only [↓evd,evu,evf,implies_true,reduceCtorEq,Nat.reduceEqDiff,↓reduceIte,Nat.reduceAdd,Nat.reduceLT,evz]
     refine MSpec.of q2 ?_
     simp only [↓evd,evu,evf,implies_true,reduceCtorEq,Nat.reduceEqDiff,↓reduceIte,Nat.reduceLT,evz]
     refine MSpec.of q3 ?_
     simp only [↓evd,evu,evf,implies_true,reduceCtorEq,Nat.reduceEqDiff,↓reduceIte,Nat.reduceAdd,Nat.reduceLT,evz]
     with_reducible refine draw_of_grow (fun _=>True) (ms:=[false,false,false,false,false,false,false,false,false,false,false,false,false,false,false,false,false,false,false,false,false,false,false,false,false,false,false,false,false,false,false,false,false,false,false,false,false,false,false,false,false,false,false,false]) (by kernel_rfl) ?_
     simp only [↓evd,evu,evf,↓reduceIte,Nat.reduceAdd,Nat.reduceLT,evz,n1]
     refine MSpec.of (A1 _) ⟨.inr Keeps.rfl,?_⟩
     simp only [↓evd,evu,evf,↓reduceIte,Nat.reduceAdd,Nat.reduceLT,evz,n1]
     refine MSpec.of (A2 _) ⟨.inr Keeps.rfl,?_⟩
     simp only [↓evd,evu,evf,↓reduceIte,Nat.reduceAdd,Nat.reduceLT,evz,e0,e1]
     refine MSpec.of (A3 _) ⟨.inr Keeps.rfl,?_⟩
     simp only [↓evd,evu,evf,↓reduceIte,Nat.reduceLT,evz]
     refine MSpec.of (A4 _) ⟨.inr Keeps.rfl,?_⟩
     simp only [↓evd,evu,evf,↓reduceIte,Nat.reduceLT,evz]
     first | exact hWo | exact ⟨rfl,hWo⟩
   ·refine ⟨0,by omega,?_⟩
    simp only [evu,evf,↓reduceIte,Nat.reduceLT,evz,e0,e1,e2]
    first | exact ⟨by simp,hτ⟩ | exact ⟨rfl,by simp,hτ⟩
 ·refine ⟨0,by omega,?_⟩
  simp only [evu,evf,reduceCtorEq,Nat.reduceEqDiff,↓reduceIte,Nat.reduceLT,evz]
  first | exact ⟨by simp,rfl⟩ | exact ⟨rfl,by simp,rfl⟩ | simp
theorem diffToggles_row (W:World) (a0 a1:List UInt8) (a2:Int) (g0:GStr a0) (g1:GStr a1) (g2:GInt .u8 a2):FSpec Tryz.prog n_palinodelaw22_DiffToggles [.str a0,.str a1,.int .u8 a2] (Heap.bare W (cellsOf W)) fun v s=>v= .bool true∧s.W=W:=
 diffToggles_fspec W a0 a1 a2 (gint_u8 g2) g0 g1
end Go.Proofs.YtioampofolilnaaGreat.M

