/- Codes of the program's functions, compiled for the abstract machine; each compiled by the kernel's word. No condition. -/
import Derived.Test.YtfkiebglpagnaaaFN
set_option maxRecDepth 100000
namespace Go.Proofs.Ytfkiebglpagnaaa.M
open Go Go.Mini
section
open Opd renaming tmp → t, lit → l
open SOp renaming mv → m, call → c, load → d, pick → k, fldA → f, bin → b, idxA → x, store → e, nilc → z, len → g
open SCode renaming seq → q, reg → r, cond → i, block → o
open Option renaming some → s, none → n
def f_palinodelaw20_EngineApart : SFunc := { ntmps := 202, results := [.tmp 6], body :=
(q (r n [⟨s 6,m (l (.bool false)),n,[]⟩])
(q (q (r n [⟨s 25,c (l (.fn 4 [])) [],n,[]⟩,⟨s 26,.not (t 25),n,[0]⟩])
(i (t 26) (q (r n [⟨s 6,m (l (.bool false)),n,[]⟩])
.ret) .skip))
(q (q (r n [⟨s 27,m (t 0),n,[]⟩,⟨s 28,.lenS (t 27),n,[0]⟩,⟨s 29,b .lss .int (t 28) (l (.int .i64 1)),n,[1]⟩,⟨s 30,m (t 29),n,[2]⟩,⟨s 31,m (t 0),s (30,false),[3]⟩,⟨s 32,.lenS (t 31),s (30,false),[4,3]⟩,⟨s 33,b .gtr .int (t 32) (l (.int .i64 60)),s (30,false),[5,3]⟩,⟨s 34,k (t 30) (l (.bool true)) (t 33),n,[3,6]⟩,⟨s 35,m (t 34),n,[7,3]⟩,⟨s 36,m (t 1),s (35,false),[8]⟩,⟨s 37,g (t 36),s (35,false),[9,8]⟩,⟨s 38,b .gtr .int (t 37) (l (.int .i64 8)),s (35,false),[10,8]⟩,⟨s 39,k (t 35) (l (.bool true)) (t 38),n,[8,11]⟩,⟨s 40,m (t 39),n,[12,8]⟩,⟨s 41,m (t 0),s (40,false),[13]⟩,⟨s 42,c (l (.fn 5 [])) [(t 41)],s (40,false),[14,13,13]⟩,⟨s 43,.not (t 42),s (40,false),[15,13]⟩,⟨s 44,k (t 40) (l (.bool true)) (t 43),n,[13,16]⟩])
(i (t 44) (q (r n [⟨s 6,m (l (.bool true)),n,[]⟩])
.ret) .skip))
(q (r n [⟨s 7,.alloc (bitRow 64 (fun _=>false)),n,[]⟩])
(q (r n [⟨s 8,m (l .nils),n,[]⟩])
(q (q (r n [⟨s 9,m (l (.int .i64 0)),n,[]⟩])
(o 0 (.loop (q (q (r n [⟨s 45,m (t 9),n,[]⟩,⟨s 46,m (t 1),n,[]⟩,⟨s 47,g (t 46),n,[1]⟩,⟨s 48,b .lss .int (t 45) (t 47),n,[0,2]⟩])
(i (t 48) .skip (.exit 0)))
(q (o 1 (q (r n [⟨s 51,m (t 1),n,[]⟩,⟨s 52,m (t 9),n,[]⟩,⟨s 53,x 1 (t 51) (t 52),n,[0,1]⟩,⟨s 54,d n (t 53),n,[2]⟩,⟨s 55,.cint .i64 (t 54),n,[3]⟩,⟨s 56,m (t 0),n,[]⟩,⟨s 57,.lenS (t 56),n,[5]⟩,⟨s 58,b .add .int (t 57) (l (.int .i64 1)),n,[6]⟩,⟨s 59,b .rem .int (t 55) (t 58),n,[4,7]⟩,⟨s 10,m (t 59),n,[8,0,1,2,3,4,5,6,7,8]⟩])
(q (r n [⟨s 60,m (t 0),n,[]⟩,⟨s 61,m (t 10),n,[]⟩,⟨s 62,c (l (.fn 6 [])) [(t 60),(t 61)],n,[0,1]⟩,⟨s 63,m (t 62),n,[2,2]⟩,⟨s 64,m (t 10),s (63,true),[3]⟩,⟨s 65,.idxR 64 1 (t 7) (t 64),s (63,true),[4,3]⟩,⟨s 66,d n (t 65),s (63,true),[5,3]⟩,⟨s 67,.not (t 66),s (63,true),[6,3]⟩,⟨s 68,k (t 63) (t 67) (l (.bool false)),n,[3,7]⟩])
(i (t 68) (q (r n [⟨s 69,m (t 10),n,[]⟩,⟨s 70,.idxR 64 1 (t 7) (t 69),n,[0,0]⟩,⟨n,e 1 (t 70) (l (.bool true)),n,[1,0]⟩])
(r n [⟨s 71,m (t 8),n,[]⟩,⟨s 72,m (t 10),n,[]⟩,⟨s 73,.bslc 1 [(.int .i64 0)] 1 [(0,1,(t 72))],n,[1]⟩,⟨s 74,.app 3 1 8 (t 71) (t 73),n,[0,2]⟩,⟨s 8,m (t 74),n,[3,3,0,1,2,3]⟩])) .skip))))
(r n [⟨s 49,m (t 9),n,[]⟩,⟨s 50,b .add .int (t 49) (l (.int .i64 1)),n,[0]⟩,⟨s 9,m (t 50),n,[1,0,1]⟩]))))))
(q (r n [⟨s 75,c (l (.fn 7 [])) [],n,[]⟩,⟨s 76,c (l (.fn 7 [])) [],n,[0]⟩,⟨s 11,m (t 75),n,[0,1,0]⟩,⟨s 12,m (t 76),n,[1,2,0,1,2]⟩])
(q (r n [⟨s 77,m (t 11),n,[]⟩,⟨s 78,m (t 0),n,[]⟩,⟨s 79,.build [(.int .i64 0),(.int .i64 0),(.str [])] [(2,1,(t 78))],n,[1]⟩,⟨s 80,.bslc 3 [(.int .i64 0),(.int .i64 0),(.str [])] 1 [(0,3,(t 79))],n,[2]⟩,⟨s 81,c (l (.fn 8 [])) [(t 77),(l (.int .i64 0)),(l (.int .i64 1)),(l (.int .i64 0)),(t 80)],n,[0,3]⟩])
(q (r n [⟨s 82,m (t 12),n,[]⟩,⟨s 83,m (t 0),n,[]⟩,⟨s 84,.build [(.int .i64 0),(.int .i64 0),(.str [])] [(2,1,(t 83))],n,[1]⟩,⟨s 85,.bslc 3 [(.int .i64 0),(.int .i64 0),(.str [])] 1 [(0,3,(t 84))],n,[2]⟩,⟨s 86,c (l (.fn 8 [])) [(t 82),(l (.int .i64 0)),(l (.int .i64 1)),(l (.int .i64 0)),(t 85)],n,[0,3]⟩])
(q (q (r n [⟨s 13,m (l (.int .i64 0)),n,[]⟩])
(o 2 (.loop (q (q (r n [⟨s 87,m (t 13),n,[]⟩,⟨s 88,m (t 8),n,[]⟩,⟨s 89,g (t 88),n,[1]⟩,⟨s 90,b .lss .int (t 87) (t 89),n,[0,2]⟩])
(i (t 90) .skip (.exit 2)))
(q (o 3 (q (r n [⟨s 93,m (t 8),n,[]⟩,⟨s 94,m (t 13),n,[]⟩,⟨s 95,m (t 2),n,[]⟩,⟨s 96,.cint .i64 (t 95),n,[2]⟩,⟨s 97,b .add .int (t 94) (t 96),n,[1,3]⟩,⟨s 98,m (t 8),n,[]⟩,⟨s 99,g (t 98),n,[5]⟩,⟨s 100,b .rem .int (t 97) (t 99),n,[4,6]⟩,⟨s 101,x 1 (t 93) (t 100),n,[0,7]⟩,⟨s 102,d n (t 101),n,[8]⟩,⟨s 14,m (t 102),n,[9,0,1,2,3,4,5,6,7,8,9]⟩])
(q (r (s [0,0,2,0,0,24,56,0,0,384,896,0,0,6144,14336,30720,63488,129024,260096,522240,1048568,2097144,4194303,8388607,16777215,16777215,33554431,134217727]) [⟨s 104,m (t 11),n,[]⟩,⟨s 105,m (t 13),n,[]⟩,⟨s 106,b .add .int (l (.int .i64 2)) (t 105),n,[1]⟩,⟨s 107,m (t 8),n,[]⟩,⟨s 108,m (t 13),n,[]⟩,⟨s 109,x 1 (t 107) (t 108),n,[3,4]⟩,⟨s 110,d n (t 109),n,[5]⟩,⟨s 111,m (t 8),n,[]⟩,⟨s 112,m (t 13),n,[]⟩,⟨s 113,x 1 (t 111) (t 112),n,[7,8]⟩,⟨s 114,d n (t 113),n,[9]⟩,⟨s 115,m (t 8),n,[]⟩,⟨s 116,m (t 13),n,[]⟩,⟨s 117,x 1 (t 115) (t 116),n,[11,12]⟩,⟨s 118,d n (t 117),n,[13]⟩,⟨s 119,b .rem .int (t 118) (l (.int .i64 10)),n,[14]⟩,⟨s 120,.cint .u8 (t 119),n,[15]⟩,⟨s 121,b .add .int (l (.int .u8 48)) (t 120),n,[16]⟩,⟨s 122,.bslc 1 [(.int .u8 0)] 1 [(0,1,(t 121))],n,[17]⟩,⟨s 123,.bstr (t 122),n,[18]⟩,⟨s 124,.build [(.int .i64 0),(.int .i64 0),(.str [])] [(0,1,(t 110)),(1,1,(t 114)),(2,1,(t 123))],n,[6,10,19]⟩,⟨s 125,.bslc 3 [(.int .i64 0),(.int .i64 0),(.str [])] 1 [(0,3,(t 124))],n,[20]⟩,⟨s 126,c (l (.fn 8 [])) [(t 104),(l (.int .i64 1)),(t 106),(l (.int .i64 0)),(t 125)],n,[0,2,21]⟩,⟨s 103,m (t 126),n,[22]⟩,⟨s 127,.ext (t 103) 0,n,[23]⟩,⟨s 128,.ext (t 103) 1,n,[23]⟩,⟨s 15,m (t 127),n,[24,22,0,1,2,3,4,5,6,7,8,9,10,11,12,13,14,15,16,17,18,19,20,21,22,23,24]⟩,⟨s 16,m (t 128),n,[25,26,0,1,2,3,4,5,6,7,8,9,10,11,12,13,14,15,16,17,18,19,20,21,22,23,24,25,26]⟩])
(q (r n [⟨s 130,m (t 12),n,[]⟩,⟨s 131,m (t 13),n,[]⟩,⟨s 132,b .add .int (l (.int .i64 2)) (t 131),n,[1]⟩,⟨s 133,m (t 14),n,[]⟩,⟨s 134,m (t 14),n,[]⟩,⟨s 135,m (t 14),n,[]⟩,⟨s 136,b .rem .int (t 135) (l (.int .i64 10)),n,[5]⟩,⟨s 137,.cint .u8 (t 136),n,[6]⟩,⟨s 138,b .add .int (l (.int .u8 48)) (t 137),n,[7]⟩,⟨s 139,.bslc 1 [(.int .u8 0)] 1 [(0,1,(t 138))],n,[8]⟩,⟨s 140,.bstr (t 139),n,[9]⟩,⟨s 141,.build [(.int .i64 0),(.int .i64 0),(.str [])] [(0,1,(t 133)),(1,1,(t 134)),(2,1,(t 140))],n,[3,4,10]⟩,⟨s 142,.bslc 3 [(.int .i64 0),(.int .i64 0),(.str [])] 1 [(0,3,(t 141))],n,[11]⟩,⟨s 143,c (l (.fn 8 [])) [(t 130),(l (.int .i64 1)),(t 132),(l (.int .i64 0)),(t 142)],n,[0,2,12]⟩,⟨s 129,m (t 143),n,[13]⟩,⟨s 144,.ext (t 129) 0,n,[14]⟩,⟨s 145,.ext (t 129) 1,n,[14]⟩,⟨s 17,m (t 144),n,[15,13,0,1,2,3,4,5,6,7,8,9,10,11,12,13,14,15]⟩,⟨s 18,m (t 145),n,[16,17,0,1,2,3,4,5,6,7,8,9,10,11,12,13,14,15,16,17]⟩])
(q (r n [⟨s 146,m (t 16),n,[]⟩,⟨s 147,b .neq .int (t 146) (l (.int .i64 0)),n,[0]⟩,⟨s 148,m (t 147),n,[1]⟩,⟨s 149,m (t 18),s (148,false),[2]⟩,⟨s 150,b .neq .int (t 149) (l (.int .i64 0)),s (148,false),[3,2]⟩,⟨s 151,k (t 148) (l (.bool true)) (t 150),n,[2,4]⟩])
(i (t 151) (q (r n [⟨s 6,m (l (.bool false)),n,[]⟩])
.ret) .skip))))))
(r n [⟨s 91,m (t 13),n,[]⟩,⟨s 92,b .add .int (t 91) (l (.int .i64 1)),n,[0]⟩,⟨s 13,m (t 92),n,[1,0,1]⟩]))))))
(q (r n [⟨s 19,m (l (.str [])),n,[]⟩])
(q (q (r n [⟨s 20,m (l (.int .i64 0)),n,[]⟩])
(o 4 (.loop (q (q (r n [⟨s 152,m (t 20),n,[]⟩,⟨s 153,m (t 0),n,[]⟩,⟨s 154,.lenS (t 153),n,[1]⟩,⟨s 155,b .leq .int (t 152) (t 154),n,[0,2]⟩])
(i (t 155) .skip (.exit 4)))
(q (o 5 (q (q (r n [⟨s 158,m (t 20),n,[]⟩,⟨s 159,.idxR 64 1 (t 7) (t 158),n,[0]⟩,⟨s 160,d n (t 159),n,[1]⟩])
(i (t 160) (r n [⟨s 161,m (t 19),n,[]⟩,⟨s 162,m (t 20),n,[]⟩,⟨s 163,b .rem .int (t 162) (l (.int .i64 10)),n,[1]⟩,⟨s 164,.cint .u8 (t 163),n,[2]⟩,⟨s 165,b .add .int (l (.int .u8 48)) (t 164),n,[3]⟩,⟨s 166,.bslc 1 [(.int .u8 0)] 1 [(0,1,(t 165))],n,[4]⟩,⟨s 167,.bstr (t 166),n,[5]⟩,⟨s 168,b .add .str (t 161) (t 167),n,[0,6]⟩,⟨s 19,m (t 168),n,[7,0,1,2,3,4,5,6,7]⟩]) .skip))
(q (r n [⟨s 169,m (t 20),n,[]⟩,⟨s 170,m (t 0),n,[]⟩,⟨s 171,.lenS (t 170),n,[1]⟩,⟨s 172,b .lss .int (t 169) (t 171),n,[0,2]⟩])
(i (t 172) (r n [⟨s 173,m (t 19),n,[]⟩,⟨s 174,m (t 0),n,[]⟩,⟨s 175,m (t 20),n,[]⟩,⟨s 176,m (t 20),n,[]⟩,⟨s 177,b .add .int (t 176) (l (.int .i64 1)),n,[3]⟩,⟨s 178,.slcS (t 174) (s (t 175)) (s (t 177)),n,[1,2,4]⟩,⟨s 179,b .add .str (t 173) (t 178),n,[0,5]⟩,⟨s 19,m (t 179),n,[6,0,1,2,3,4,5,6]⟩]) .skip))))
(r n [⟨s 156,m (t 20),n,[]⟩,⟨s 157,b .add .int (t 156) (l (.int .i64 1)),n,[0]⟩,⟨s 20,m (t 157),n,[1,0,1]⟩]))))))
(q (r n [⟨s 181,m (t 11),n,[]⟩,⟨s 182,m (t 11),n,[]⟩,⟨s 183,c (l (.fn 10 [])) [(t 182)],n,[1]⟩,⟨s 184,c (l (.fn 9 [])) [(t 181),(t 183)],n,[0,2,2]⟩,⟨s 180,m (t 184),n,[3]⟩,⟨s 185,.ext (t 180) 0,n,[4]⟩,⟨s 186,.ext (t 180) 1,n,[4]⟩,⟨s 21,m (t 185),n,[5,3,0,1,2,3,4,5]⟩,⟨s 22,m (t 186),n,[6,7,0,1,2,3,4,5,6,7]⟩])
(q (r n [⟨s 188,m (t 12),n,[]⟩,⟨s 189,m (t 12),n,[]⟩,⟨s 190,c (l (.fn 10 [])) [(t 189)],n,[1]⟩,⟨s 191,c (l (.fn 9 [])) [(t 188),(t 190)],n,[0,2,2]⟩,⟨s 187,m (t 191),n,[3]⟩,⟨s 192,.ext (t 187) 0,n,[4]⟩,⟨s 193,.ext (t 187) 1,n,[4]⟩,⟨s 23,m (t 192),n,[5,3,0,1,2,3,4,5]⟩,⟨s 24,m (t 193),n,[6,7,0,1,2,3,4,5,6,7]⟩])
(q (r n [⟨s 194,m (t 21),n,[]⟩,⟨s 195,m (t 19),n,[]⟩,⟨s 196,b .eql .str (t 194) (t 195),n,[0,1]⟩,⟨s 197,m (t 196),n,[2]⟩,⟨s 198,m (t 23),s (197,true),[3]⟩,⟨s 199,m (t 19),s (197,true),[3]⟩,⟨s 200,b .eql .str (t 198) (t 199),s (197,true),[4,5,3]⟩,⟨s 201,k (t 197) (t 200) (l (.bool false)),n,[3,6]⟩,⟨s 6,m (t 201),n,[7,3,0,1,2,3,4,5,6,7]⟩])
.ret)))))))))))))))}
theorem c_palinodelaw20_EngineApart : cFunc Try.prog n_palinodelaw20_EngineApart = some f_palinodelaw20_EngineApart := by kernel_rfl
def f_palinodelaw20_known : SFunc := { ntmps := 117, results := [.tmp 0], body :=
(q (r n [⟨s 0,m (l (.bool false)),n,[]⟩])
(q (r n [⟨s 16,c (l (.fn 7 [])) [],n,[]⟩,⟨s 1,m (t 16),n,[0,0,0]⟩])
(q (q (r n [⟨s 17,m (t 1),n,[]⟩,⟨s 18,b .eql .ptr (t 17) (l .nilp),n,[0]⟩])
(i (t 18) (q (r n [⟨s 0,m (l (.bool false)),n,[]⟩])
.ret) .skip))
(q (r n [⟨s 20,m (t 1),n,[]⟩,⟨s 21,.build [(.int .i64 0),(.int .i64 0),(.str [])] [(2,1,(l (.str [104,101,108,108,111])))],n,[]⟩,⟨s 22,.bslc 3 [(.int .i64 0),(.int .i64 0),(.str [])] 1 [(0,3,(t 21))],n,[1]⟩,⟨s 23,c (l (.fn 8 [])) [(t 20),(l (.int .i64 0)),(l (.int .i64 1)),(l (.int .i64 0)),(t 22)],n,[0,2]⟩,⟨s 19,m (t 23),n,[3]⟩,⟨s 24,.ext (t 19) 0,n,[4]⟩,⟨s 25,.ext (t 19) 1,n,[4]⟩,⟨s 2,m (t 24),n,[5,3,0,1,2,3,4,5]⟩,⟨s 3,m (t 25),n,[6,7,0,1,2,3,4,5,6,7]⟩])
(q (r n [⟨s 27,m (t 1),n,[]⟩,⟨s 28,.build [(.int .i64 0),(.int .i64 0),(.str [])] [(0,1,(l (.int .i64 0))),(1,1,(l (.int .i64 1))),(2,1,(l (.str [106])))],n,[]⟩,⟨s 29,.bslc 3 [(.int .i64 0),(.int .i64 0),(.str [])] 1 [(0,3,(t 28))],n,[1]⟩,⟨s 30,c (l (.fn 8 [])) [(t 27),(l (.int .i64 1)),(l (.int .i64 2)),(l (.int .i64 0)),(t 29)],n,[0,2]⟩,⟨s 26,m (t 30),n,[3]⟩,⟨s 31,.ext (t 26) 0,n,[4]⟩,⟨s 32,.ext (t 26) 1,n,[4]⟩,⟨s 4,m (t 31),n,[5,3,0,1,2,3,4,5]⟩,⟨s 5,m (t 32),n,[6,7,0,1,2,3,4,5,6,7]⟩])
(q (r n [⟨s 34,m (t 1),n,[]⟩,⟨s 35,.build [(.int .i64 0),(.int .i64 0),(.str [])] [(0,1,(l (.int .i64 5))),(1,1,(l (.int .i64 5))),(2,1,(l (.str [33])))],n,[]⟩,⟨s 36,.bslc 3 [(.int .i64 0),(.int .i64 0),(.str [])] 1 [(0,3,(t 35))],n,[1]⟩,⟨s 37,c (l (.fn 8 [])) [(t 34),(l (.int .i64 1)),(l (.int .i64 3)),(l (.int .i64 0)),(t 36)],n,[0,2]⟩,⟨s 33,m (t 37),n,[3]⟩,⟨s 38,.ext (t 33) 0,n,[4]⟩,⟨s 39,.ext (t 33) 1,n,[4]⟩,⟨s 6,m (t 38),n,[5,3,0,1,2,3,4,5]⟩,⟨s 7,m (t 39),n,[6,7,0,1,2,3,4,5,6,7]⟩])
(q (r n [⟨s 41,m (t 1),n,[]⟩,⟨s 42,c (l (.fn 9 [])) [(t 41),(l (.int .i64 3))],n,[0]⟩,⟨s 40,m (t 42),n,[1]⟩,⟨s 43,.ext (t 40) 0,n,[2]⟩,⟨s 44,.ext (t 40) 1,n,[2]⟩,⟨s 8,m (t 43),n,[3,1,0,1,2,3]⟩,⟨s 9,m (t 44),n,[4,5,0,1,2,3,4,5]⟩])
(q (r n [⟨s 46,m (t 1),n,[]⟩,⟨s 47,c (l (.fn 11 [])) [(t 46),(l (.int .i64 2))],n,[0]⟩,⟨s 45,m (t 47),n,[1]⟩,⟨s 48,.ext (t 45) 0,n,[2]⟩,⟨s 49,.ext (t 45) 1,n,[2]⟩,⟨s 10,m (t 48),n,[3,1,0,1,2,3]⟩,⟨s 11,m (t 49),n,[4,5,0,1,2,3,4,5]⟩])
(q (r n [⟨s 51,m (t 1),n,[]⟩,⟨s 52,c (l (.fn 9 [])) [(t 51),(l (.int .i64 4))],n,[0]⟩,⟨s 50,m (t 52),n,[1]⟩,⟨s 53,.ext (t 50) 0,n,[2]⟩,⟨s 54,.ext (t 50) 1,n,[2]⟩,⟨s 12,m (t 53),n,[3,1,0,1,2,3]⟩,⟨s 13,m (t 54),n,[4,5,0,1,2,3,4,5]⟩])
(q (r n [⟨s 56,m (t 1),n,[]⟩,⟨s 57,c (l (.fn 8 [])) [(t 56),(l (.int .i64 9)),(l (.int .i64 1)),(l (.int .i64 0)),(l .nils)],n,[0]⟩,⟨s 55,m (t 57),n,[1]⟩,⟨s 58,.ext (t 55) 0,n,[2]⟩,⟨s 59,.ext (t 55) 1,n,[2]⟩,⟨s 14,m (t 58),n,[3,1,0,1,2,3]⟩,⟨s 15,m (t 59),n,[4,5,0,1,2,3,4,5]⟩])
(q (r n [⟨s 60,m (t 3),n,[]⟩,⟨s 61,b .eql .int (t 60) (l (.int .i64 0)),n,[0]⟩,⟨s 62,m (t 61),n,[1]⟩,⟨s 63,m (t 2),s (62,true),[2]⟩,⟨s 64,b .eql .int (t 63) (l (.int .i64 1)),s (62,true),[3,2]⟩,⟨s 65,k (t 62) (t 64) (l (.bool false)),n,[2,4]⟩,⟨s 66,m (t 65),n,[5,2]⟩,⟨s 67,m (t 5),s (66,true),[6]⟩,⟨s 68,b .eql .int (t 67) (l (.int .i64 0)),s (66,true),[7,6]⟩,⟨s 69,k (t 66) (t 68) (l (.bool false)),n,[6,8]⟩,⟨s 70,m (t 69),n,[9,6]⟩,⟨s 71,m (t 4),s (70,true),[10]⟩,⟨s 72,b .eql .int (t 71) (l (.int .i64 2)),s (70,true),[11,10]⟩,⟨s 73,k (t 70) (t 72) (l (.bool false)),n,[10,12]⟩,⟨s 74,m (t 73),n,[13,10]⟩,⟨s 75,m (t 7),s (74,true),[14]⟩,⟨s 76,b .eql .int (t 75) (l (.int .i64 0)),s (74,true),[15,14]⟩,⟨s 77,k (t 74) (t 76) (l (.bool false)),n,[14,16]⟩,⟨s 78,m (t 77),n,[17,14]⟩,⟨s 79,m (t 6),s (78,true),[18]⟩,⟨s 80,b .eql .int (t 79) (l (.int .i64 3)),s (78,true),[19,18]⟩,⟨s 81,k (t 78) (t 80) (l (.bool false)),n,[18,20]⟩,⟨s 82,m (t 81),n,[21,18]⟩,⟨s 83,m (t 9),s (82,true),[22]⟩,⟨s 84,b .eql .int (t 83) (l (.int .i64 0)),s (82,true),[23,22]⟩,⟨s 85,k (t 82) (t 84) (l (.bool false)),n,[22,24]⟩,⟨s 86,m (t 85),n,[25,22]⟩,⟨s 87,m (t 8),s (86,true),[26]⟩,⟨s 88,b .eql .str (t 87) (l (.str [106,101,108,108,111,33])),s (86,true),[27,26]⟩,⟨s 89,k (t 86) (t 88) (l (.bool false)),n,[26,28]⟩,⟨s 90,m (t 89),n,[29,26]⟩,⟨s 91,m (t 11),s (90,true),[30]⟩,⟨s 92,b .eql .int (t 91) (l (.int .i64 0)),s (90,true),[31,30]⟩,⟨s 93,k (t 90) (t 92) (l (.bool false)),n,[30,32]⟩,⟨s 94,m (t 93),n,[33,30]⟩,⟨s 95,m (t 13),s (94,true),[34]⟩,⟨s 96,b .eql .int (t 95) (l (.int .i64 0)),s (94,true),[35,34]⟩,⟨s 97,k (t 94) (t 96) (l (.bool false)),n,[34,36]⟩,⟨s 98,m (t 97),n,[37,34]⟩,⟨s 99,m (t 12),s (98,true),[38]⟩,⟨s 100,b .eql .str (t 99) (l (.str [104,101,108,108,111,33])),s (98,true),[39,38]⟩,⟨s 101,k (t 98) (t 100) (l (.bool false)),n,[38,40]⟩,⟨s 102,m (t 101),n,[41,38]⟩,⟨s 103,m (t 15),s (102,true),[42]⟩,⟨s 104,b .eql .int (t 103) (l (.int .i64 190)),s (102,true),[43,42]⟩,⟨s 105,k (t 102) (t 104) (l (.bool false)),n,[42,44]⟩,⟨s 106,m (t 105),n,[45,42]⟩,⟨s 107,m (t 1),s (106,true),[46]⟩,⟨s 108,c (l (.fn 10 [])) [(t 107)],s (106,true),[47,46,46]⟩,⟨s 109,b .eql .int (t 108) (l (.int .i64 4)),s (106,true),[48,46]⟩,⟨s 110,k (t 106) (t 109) (l (.bool false)),n,[46,49]⟩,⟨s 111,m (t 110),n,[50,48]⟩,⟨s 112,m (t 1),s (111,true),[51]⟩,⟨s 113,c (l (.fn 12 [])) [(t 112)],s (111,true),[52,51,51]⟩,⟨s 114,g (t 113),s (111,true),[53,51]⟩,⟨s 115,b .eql .int (t 114) (l (.int .i64 7)),s (111,true),[54,51]⟩,⟨s 116,k (t 111) (t 115) (l (.bool false)),n,[51,55]⟩,⟨s 0,m (t 116),n,[56,53,0,1,2,3,4,5,6,7,8,9,10,11,12,13,14,15,16,17,18,19,20,21,22,23,24,25,26,27,28,29,30,31,32,33,34,35,36,37,38,39,40,41,42,43,44,45,46,47,48,49,50,51,52,53,54,55,56]⟩])
.ret)))))))))))}
theorem c_palinodelaw20_known : cFunc Try.prog n_palinodelaw20_known = some f_palinodelaw20_known := by kernel_rfl
def f_palinoderef1_Valid : SFunc := { ntmps := 17, results := [.tmp 2], body :=
(q (r n [⟨s 2,m (l (.bool false)),n,[]⟩])
(q (r n [⟨s 3,m (l (.int .i64 0)),n,[]⟩])
(q (o 0 (.loop (q (q (r n [⟨s 5,m (t 3),n,[]⟩,⟨s 6,m (t 0),n,[]⟩,⟨s 7,.lenS (t 6),n,[1]⟩,⟨s 8,b .lss .int (t 5) (t 7),n,[0,2]⟩])
(i (t 8) .skip (.exit 0)))
(o 1 (q (r n [⟨s 9,m (t 0),n,[]⟩,⟨s 10,m (t 3),n,[]⟩,⟨s 11,c (l (.fn 13 [])) [(t 9),(t 10)],n,[0,1]⟩,⟨s 4,m (t 11),n,[2,2,0,1,2]⟩])
(q (q (r n [⟨s 12,m (t 4),n,[]⟩,⟨s 13,b .eql .int (t 12) (l (.int .i64 0)),n,[0]⟩])
(i (t 13) (q (r n [⟨s 2,m (l (.bool false)),n,[]⟩])
.ret) .skip))
(r n [⟨s 14,m (t 3),n,[]⟩,⟨s 15,m (t 4),n,[]⟩,⟨s 16,b .add .int (t 14) (t 15),n,[0,1]⟩,⟨s 3,m (t 16),n,[2,0,1,2]⟩])))))))
(q (r n [⟨s 2,m (l (.bool true)),n,[]⟩])
.ret))))}
theorem c_palinoderef1_Valid : cFunc Try.prog n_palinoderef1_Valid = some f_palinoderef1_Valid := by kernel_rfl
def f_palinoderef1_IsEdge : SFunc := { ntmps := 30, results := [.tmp 4], body :=
(q (r n [⟨s 4,m (l (.bool false)),n,[]⟩])
(q (q (r n [⟨s 5,m (t 1),n,[]⟩,⟨s 6,b .lss .int (t 5) (l (.int .i64 0)),n,[0]⟩,⟨s 7,m (t 6),n,[1]⟩,⟨s 8,m (t 1),s (7,false),[2]⟩,⟨s 9,m (t 0),s (7,false),[2]⟩,⟨s 10,.lenS (t 9),s (7,false),[4,2]⟩,⟨s 11,b .gtr .int (t 8) (t 10),s (7,false),[3,5,2]⟩,⟨s 12,k (t 7) (l (.bool true)) (t 11),n,[2,6]⟩,⟨s 13,m (t 12),n,[7,2]⟩,⟨s 14,m (t 0),s (13,false),[8]⟩,⟨s 15,c (l (.fn 5 [])) [(t 14)],s (13,false),[9,8,8]⟩,⟨s 16,.not (t 15),s (13,false),[10,8]⟩,⟨s 17,k (t 13) (l (.bool true)) (t 16),n,[8,11]⟩])
(i (t 17) (q (r n [⟨s 4,m (l (.bool false)),n,[]⟩])
.ret) .skip))
(q (r n [⟨s 18,m (t 1),n,[]⟩,⟨s 19,m (t 0),n,[]⟩,⟨s 20,.lenS (t 19),n,[1]⟩,⟨s 21,b .eql .int (t 18) (t 20),n,[0,2]⟩,⟨s 22,m (t 21),n,[3]⟩,⟨s 23,m (t 0),s (22,false),[4]⟩,⟨s 24,m (t 1),s (22,false),[4]⟩,⟨s 25,.idxS (t 23) (t 24),s (22,false),[5,6,4]⟩,⟨s 26,.cint .i64 (t 25),s (22,false),[7,4]⟩,⟨s 27,b .shr .int (t 26) (l (.int .u64 6)),s (22,false),[8,4]⟩,⟨s 28,b .neq .int (t 27) (l (.int .i64 2)),s (22,false),[9,4]⟩,⟨s 29,k (t 22) (l (.bool true)) (t 28),n,[4,10]⟩,⟨s 4,m (t 29),n,[11,4,0,1,2,3,4,5,6,7,8,9,10,11]⟩])
.ret)))}
theorem c_palinoderef1_IsEdge : cFunc Try.prog n_palinoderef1_IsEdge = some f_palinoderef1_IsEdge := by kernel_rfl
def f_engine_New : SFunc := { ntmps := 4, results := [.tmp 0], body :=
(q (r n [⟨s 0,m (l .nilp),n,[]⟩])
(q (r n [⟨s 1,c (l (.fn 14 [])) [],n,[]⟩,⟨s 2,.build [.nils,.nilp] [(1,1,(t 1))],n,[0]⟩,⟨s 3,.box (t 2),n,[1]⟩,⟨s 0,m (t 3),n,[2,0,0,1,2]⟩])
.ret))}
theorem c_engine_New : cFunc Try.prog n_engine_New = some f_engine_New := by kernel_rfl
def f_engine_Engine_Edit : SFunc := { ntmps := 87, results := [.tmp 10, .tmp 11], body :=
(q (r n [⟨s 10,m (l (.int .i64 0)),n,[]⟩,⟨s 11,m (l (.int .i64 0)),n,[0]⟩])
(q (r n [⟨s 18,m (t 0),n,[]⟩,⟨s 19,m (t 1),n,[]⟩,⟨s 20,c (l (.fn 9 [])) [(t 18),(t 19)],n,[0,1]⟩,⟨s 17,m (t 20),n,[2]⟩,⟨s 21,.ext (t 17) 0,n,[3]⟩,⟨s 22,.ext (t 17) 1,n,[3]⟩,⟨s 12,m (t 21),n,[4,2,0,1,2,3,4]⟩,⟨s 13,m (t 22),n,[5,6,0,1,2,3,4,5,6]⟩])
(q (q (r n [⟨s 23,m (t 13),n,[]⟩,⟨s 24,b .neq .int (t 23) (l (.int .i64 0)),n,[0]⟩])
(i (t 24) (q (r n [⟨s 25,m (t 13),n,[]⟩,⟨s 10,m (l (.int .i64 0)),n,[]⟩,⟨s 11,m (t 25),n,[0,1,0,1]⟩])
.ret) .skip))
(q (q (r n [⟨s 26,m (t 12),n,[]⟩,⟨s 27,m (t 4),n,[]⟩,⟨s 28,c (l (.fn 15 [])) [(t 26),(t 27)],n,[0,1]⟩,⟨s 14,m (t 28),n,[2,2,0,1,2]⟩])
(q (r n [⟨s 29,m (t 14),n,[]⟩,⟨s 30,b .neq .int (t 29) (l (.int .i64 0)),n,[0]⟩])
(i (t 30) (q (r n [⟨s 31,m (t 14),n,[]⟩,⟨s 10,m (l (.int .i64 0)),n,[]⟩,⟨s 11,m (t 31),n,[0,1,0,1]⟩])
.ret) .skip)))
(q (r n [⟨s 32,m (t 0),n,[]⟩,⟨s 33,c (l (.fn 16 [])) [(t 32)],n,[0]⟩,⟨s 15,m (t 33),n,[1,1,0,1]⟩])
(q (r n [⟨s 35,m (t 15),n,[]⟩,⟨s 36,z (t 35),n,[0]⟩,⟨s 37,f 1 (t 36),n,[1]⟩,⟨s 38,d n (t 37),n,[2]⟩,⟨s 39,m (t 2),n,[]⟩,⟨s 40,c (l (.fn 17 [])) [(t 38),(t 39)],n,[3,4]⟩,⟨s 34,m (t 40),n,[5]⟩,⟨s 41,.ext (t 34) 0,n,[6]⟩,⟨s 42,.ext (t 34) 1,n,[6]⟩,⟨s 16,m (t 41),n,[7,5,0,1,2,3,4,5,6,7]⟩,⟨s 13,m (t 42),n,[8,9,0,1,2,3,4,5,6,7,8,9]⟩])
(q (o 0 (q (r n [⟨s 44,m (t 13),n,[]⟩,⟨s 45,b .neq .int (t 44) (l (.int .i64 0)),n,[0]⟩,⟨s 43,m (t 45),n,[1]⟩])
(i (t 43) (q (r n [⟨s 46,m (t 13),n,[]⟩,⟨s 10,m (l (.int .i64 0)),n,[]⟩,⟨s 11,m (t 46),n,[0,1,0,1]⟩])
.ret) (q (r n [⟨s 48,m (t 3),n,[]⟩,⟨s 49,b .lss .int (t 48) (l (.int .i64 0)),n,[0]⟩,⟨s 50,m (t 49),n,[1]⟩,⟨s 51,m (t 3),s (50,false),[2]⟩,⟨s 52,b .gtr .int (t 51) (l (.int .i64 1000000)),s (50,false),[3,2]⟩,⟨s 53,k (t 50) (l (.bool true)) (t 52),n,[2,4]⟩,⟨s 47,m (t 53),n,[5,2]⟩])
(i (t 47) (q (r n [⟨s 10,m (l (.int .i64 0)),n,[]⟩,⟨s 11,m (l (.int .i64 10)),n,[0,0]⟩])
.ret) .skip)))))
(q (r (s [0,0,2,6,14,0,0,0,192,0,0,0,0,8190,16383,32767,65535]) [⟨s 54,m (t 15),n,[]⟩,⟨s 55,m (t 0),n,[]⟩,⟨s 56,z (t 55),n,[1]⟩,⟨s 57,f 0 (t 56),n,[2]⟩,⟨s 58,d n (t 57),n,[3]⟩,⟨s 59,m (t 1),n,[]⟩,⟨s 60,m (t 0),n,[]⟩,⟨s 61,m (t 1),n,[]⟩,⟨s 62,c (l (.fn 19 [])) [(t 60),(t 61)],n,[6,7]⟩,⟨s 63,m (t 4),n,[]⟩,⟨s 64,m (t 16),n,[]⟩,⟨s 65,m (t 2),n,[]⟩,⟨s 66,m (t 3),n,[]⟩,⟨s 67,c (l (.fn 18 [])) [(t 58),(t 59),(t 62),(t 63),(t 64),(t 65),(t 66)],n,[4,5,8,9,10,11,12,8]⟩,⟨s 68,z (t 54),n,[0,0,1,2,3,4,5,6,7,8,9,10,11,12,13]⟩,⟨s 69,f 0 (t 68),n,[14,0,1,2,3,4,5,6,7,8,9,10,11,12,13]⟩,⟨n,e 1 (t 69) (t 67),n,[15,13,13,0,1,2,3,4,5,6,7,8,9,10,11,12,13]⟩])
(q (o 1 (q (r n [⟨s 71,m (t 15),n,[]⟩,⟨s 72,z (t 71),n,[0]⟩,⟨s 73,f 0 (t 72),n,[1]⟩,⟨s 74,d n (t 73),n,[2]⟩,⟨s 75,g (t 74),n,[3]⟩,⟨s 76,b .gtr .int (t 75) (l (.int .i64 4000)),n,[4]⟩,⟨s 70,m (t 76),n,[5]⟩])
(i (t 70) (q (r n [⟨s 10,m (l (.int .i64 0)),n,[]⟩,⟨s 11,m (l (.int .i64 70)),n,[0,0]⟩])
.ret) (q (r n [⟨s 78,m (t 15),n,[]⟩,⟨s 79,c (l (.fn 20 [])) [(t 78)],n,[0]⟩,⟨s 80,.not (t 79),n,[1]⟩,⟨s 77,m (t 80),n,[2,1]⟩])
(i (t 77) (q (r n [⟨s 10,m (l (.int .i64 0)),n,[]⟩,⟨s 11,m (l (.int .i64 13)),n,[0,0]⟩])
.ret) .skip)))))
(q (r n [⟨s 81,m (t 0),n,[]⟩,⟨s 82,m (t 15),n,[]⟩,⟨s 83,z (t 82),n,[1]⟩,⟨s 84,d (s 2) (t 83),n,[2]⟩,⟨s 85,z (t 81),n,[0,0,1,2,3]⟩,⟨n,e 2 (t 85) (t 84),n,[4,3,0,1,2,3]⟩])
(q (r n [⟨s 86,m (t 16),n,[]⟩,⟨s 10,m (t 86),n,[0,0]⟩,⟨s 11,m (l (.int .i64 0)),n,[1,0,1]⟩])
.ret)))))))))))}
theorem c_engine_Engine_Edit : cFunc Try.prog n_engine_Engine_Edit = some f_engine_Engine_Edit := by kernel_rfl
def f_engine_Engine_Text : SFunc := { ntmps := 19, results := [.tmp 4, .tmp 5], body :=
(q (r n [⟨s 4,m (l (.str [])),n,[]⟩,⟨s 5,m (l (.int .i64 0)),n,[0]⟩])
(q (q (r n [⟨s 6,m (t 0),n,[]⟩,⟨s 7,m (t 1),n,[]⟩,⟨s 8,c (l (.fn 21 [])) [(t 6),(t 7)],n,[0,1]⟩,⟨s 9,.not (t 8),n,[2]⟩])
(i (t 9) (q (r n [⟨s 4,m (l (.str [])),n,[]⟩,⟨s 5,m (l (.int .i64 190)),n,[0,0]⟩])
.ret) .skip))
(q (r (s [0,1,3,7,0,0,0,96,255,511,1023]) [⟨s 10,m (t 0),n,[]⟩,⟨s 11,z (t 10),n,[0]⟩,⟨s 12,f 0 (t 11),n,[1]⟩,⟨s 13,d n (t 12),n,[2]⟩,⟨s 14,m (t 1),n,[]⟩,⟨s 15,m (t 0),n,[]⟩,⟨s 16,m (t 1),n,[]⟩,⟨s 17,c (l (.fn 19 [])) [(t 15),(t 16)],n,[5,6]⟩,⟨s 18,c (l (.fn 22 [])) [(t 13),(t 14),(t 17)],n,[3,4,7,7]⟩,⟨s 4,m (t 18),n,[8,8,0,1,2,3,4,5,6,7,8]⟩,⟨s 5,m (l (.int .i64 0)),n,[9,0,1,2,3,4,5,6,7,8,9]⟩])
.ret)))}
theorem c_engine_Engine_Text : cFunc Try.prog n_engine_Engine_Text = some f_engine_Engine_Text := by kernel_rfl
def f_engine_Engine_Head : SFunc := { ntmps := 8, results := [.tmp 2], body :=
(q (r n [⟨s 2,m (l (.int .i64 0)),n,[]⟩])
(q (r n [⟨s 3,m (t 0),n,[]⟩,⟨s 4,z (t 3),n,[0]⟩,⟨s 5,f 1 (t 4),n,[1]⟩,⟨s 6,d n (t 5),n,[2]⟩,⟨s 7,c (l (.fn 23 [])) [(t 6)],n,[3]⟩,⟨s 2,m (t 7),n,[4,4,0,1,2,3,4]⟩])
.ret))}
theorem c_engine_Engine_Head : cFunc Try.prog n_engine_Engine_Head = some f_engine_Engine_Head := by kernel_rfl
def f_engine_Engine_Toggle : SFunc := { ntmps := 34, results := [.tmp 4, .tmp 5], body :=
(q (r n [⟨s 4,m (l (.int .i64 0)),n,[]⟩,⟨s 5,m (l (.int .i64 0)),n,[0]⟩])
(q (r n [⟨s 9,m (t 0),n,[]⟩,⟨s 10,c (l (.fn 16 [])) [(t 9)],n,[0]⟩,⟨s 6,m (t 10),n,[1,1,0,1]⟩])
(q (r n [⟨s 12,m (t 6),n,[]⟩,⟨s 13,z (t 12),n,[0]⟩,⟨s 14,f 1 (t 13),n,[1]⟩,⟨s 15,d n (t 14),n,[2]⟩,⟨s 16,m (t 1),n,[]⟩,⟨s 17,c (l (.fn 24 [])) [(t 15),(t 16)],n,[3,4]⟩,⟨s 11,m (t 17),n,[5]⟩,⟨s 18,.ext (t 11) 0,n,[6]⟩,⟨s 19,.ext (t 11) 1,n,[6]⟩,⟨s 7,m (t 18),n,[7,5,0,1,2,3,4,5,6,7]⟩,⟨s 8,m (t 19),n,[8,9,0,1,2,3,4,5,6,7,8,9]⟩])
(q (o 0 (q (r n [⟨s 21,m (t 8),n,[]⟩,⟨s 22,b .neq .int (t 21) (l (.int .i64 0)),n,[0]⟩,⟨s 20,m (t 22),n,[1]⟩])
(i (t 20) (q (r n [⟨s 23,m (t 8),n,[]⟩,⟨s 4,m (l (.int .i64 0)),n,[]⟩,⟨s 5,m (t 23),n,[0,1,0,1]⟩])
.ret) (q (r n [⟨s 25,m (t 6),n,[]⟩,⟨s 26,c (l (.fn 20 [])) [(t 25)],n,[0]⟩,⟨s 27,.not (t 26),n,[1]⟩,⟨s 24,m (t 27),n,[2,1]⟩])
(i (t 24) (q (r n [⟨s 4,m (l (.int .i64 0)),n,[]⟩,⟨s 5,m (l (.int .i64 13)),n,[0,0]⟩])
.ret) .skip)))))
(q (r n [⟨s 28,m (t 0),n,[]⟩,⟨s 29,m (t 6),n,[]⟩,⟨s 30,z (t 29),n,[1]⟩,⟨s 31,d (s 2) (t 30),n,[2]⟩,⟨s 32,z (t 28),n,[0,0,1,2,3]⟩,⟨n,e 2 (t 32) (t 31),n,[4,3,0,1,2,3]⟩])
(q (r n [⟨s 33,m (t 7),n,[]⟩,⟨s 4,m (t 33),n,[0,0]⟩,⟨s 5,m (l (.int .i64 0)),n,[1,0,1]⟩])
.ret))))))}
theorem c_engine_Engine_Toggle : cFunc Try.prog n_engine_Engine_Toggle = some f_engine_Engine_Toggle := by kernel_rfl
def f_engine_Engine_Atoms : SFunc := { ntmps := 8, results := [.tmp 2], body :=
(q (r n [⟨s 2,m (l .nils),n,[]⟩])
(q (r n [⟨s 3,m (t 0),n,[]⟩,⟨s 4,z (t 3),n,[0]⟩,⟨s 5,f 0 (t 4),n,[1]⟩,⟨s 6,d n (t 5),n,[2]⟩,⟨s 7,c (l (.fn 25 [])) [(t 6)],n,[3]⟩,⟨s 2,m (t 7),n,[4,4,0,1,2,3,4]⟩])
.ret))}
theorem c_engine_Engine_Atoms : cFunc Try.prog n_engine_Engine_Atoms = some f_engine_Engine_Atoms := by kernel_rfl
def f_palinoderef1_Size : SFunc := { ntmps := 94, results := [.tmp 4], body :=
(q (r n [⟨s 4,m (l (.int .i64 0)),n,[]⟩])
(q (q (r n [⟨s 11,m (t 1),n,[]⟩,⟨s 12,b .lss .int (t 11) (l (.int .i64 0)),n,[0]⟩,⟨s 13,m (t 12),n,[1]⟩,⟨s 14,m (t 1),s (13,false),[2]⟩,⟨s 15,m (t 0),s (13,false),[2]⟩,⟨s 16,.lenS (t 15),s (13,false),[4,2]⟩,⟨s 17,b .geq .int (t 14) (t 16),s (13,false),[3,5,2]⟩,⟨s 18,k (t 13) (l (.bool true)) (t 17),n,[2,6]⟩])
(i (t 18) (q (r n [⟨s 4,m (l (.int .i64 0)),n,[]⟩])
.ret) .skip))
(q (r n [⟨s 19,m (t 0),n,[]⟩,⟨s 20,m (t 1),n,[]⟩,⟨s 21,.idxS (t 19) (t 20),n,[0,1]⟩,⟨s 22,.cint .i64 (t 21),n,[2]⟩,⟨s 5,m (t 22),n,[3,0,1,2,3]⟩])
(q (r n [⟨s 6,m (l (.int .i64 0)),n,[]⟩,⟨s 7,m (l (.int .i64 0)),n,[0,0]⟩,⟨s 8,m (l (.int .i64 0)),n,[1,0,1]⟩])
(q (o 0 (q (r n [⟨s 24,m (t 5),n,[]⟩,⟨s 25,b .lss .int (t 24) (l (.int .i64 128)),n,[0]⟩,⟨s 23,m (t 25),n,[1]⟩])
(i (t 23) (q (r n [⟨s 4,m (l (.int .i64 1)),n,[]⟩])
.ret) (q (r n [⟨s 27,m (t 5),n,[]⟩,⟨s 28,b .geq .int (t 27) (l (.int .i64 192)),n,[0]⟩,⟨s 29,m (t 28),n,[1]⟩,⟨s 30,m (t 5),s (29,true),[2]⟩,⟨s 31,b .lss .int (t 30) (l (.int .i64 224)),s (29,true),[3,2]⟩,⟨s 32,k (t 29) (t 31) (l (.bool false)),n,[2,4]⟩,⟨s 26,m (t 32),n,[5,2]⟩])
(i (t 26) (r n [⟨s 33,m (t 5),n,[]⟩,⟨s 34,b .and .int (t 33) (l (.int .i64 31)),n,[0]⟩,⟨s 6,m (l (.int .i64 2)),n,[]⟩,⟨s 7,m (t 34),n,[1,2,0,1,2]⟩,⟨s 8,m (l (.int .i64 128)),n,[3,0,1,2,3]⟩]) (q (r n [⟨s 36,m (t 5),n,[]⟩,⟨s 37,b .geq .int (t 36) (l (.int .i64 224)),n,[0]⟩,⟨s 38,m (t 37),n,[1]⟩,⟨s 39,m (t 5),s (38,true),[2]⟩,⟨s 40,b .lss .int (t 39) (l (.int .i64 240)),s (38,true),[3,2]⟩,⟨s 41,k (t 38) (t 40) (l (.bool false)),n,[2,4]⟩,⟨s 35,m (t 41),n,[5,2]⟩])
(i (t 35) (r n [⟨s 42,m (t 5),n,[]⟩,⟨s 43,b .and .int (t 42) (l (.int .i64 15)),n,[0]⟩,⟨s 6,m (l (.int .i64 3)),n,[]⟩,⟨s 7,m (t 43),n,[1,2,0,1,2]⟩,⟨s 8,m (l (.int .i64 2048)),n,[3,0,1,2,3]⟩]) (q (r n [⟨s 45,m (t 5),n,[]⟩,⟨s 46,b .geq .int (t 45) (l (.int .i64 240)),n,[0]⟩,⟨s 47,m (t 46),n,[1]⟩,⟨s 48,m (t 5),s (47,true),[2]⟩,⟨s 49,b .lss .int (t 48) (l (.int .i64 248)),s (47,true),[3,2]⟩,⟨s 50,k (t 47) (t 49) (l (.bool false)),n,[2,4]⟩,⟨s 44,m (t 50),n,[5,2]⟩])
(i (t 44) (r n [⟨s 51,m (t 5),n,[]⟩,⟨s 52,b .and .int (t 51) (l (.int .i64 7)),n,[0]⟩,⟨s 6,m (l (.int .i64 4)),n,[]⟩,⟨s 7,m (t 52),n,[1,2,0,1,2]⟩,⟨s 8,m (l (.int .i64 65536)),n,[3,0,1,2,3]⟩]) (q (r n [⟨s 4,m (l (.int .i64 0)),n,[]⟩])
.ret))))))))))
(q (q (r n [⟨s 53,m (t 0),n,[]⟩,⟨s 54,.lenS (t 53),n,[0]⟩,⟨s 55,m (t 1),n,[]⟩,⟨s 56,b .sub .int (t 54) (t 55),n,[1,2]⟩,⟨s 57,m (t 6),n,[]⟩,⟨s 58,b .lss .int (t 56) (t 57),n,[3,4]⟩])
(i (t 58) (q (r n [⟨s 4,m (l (.int .i64 0)),n,[]⟩])
.ret) .skip))
(q (q (r n [⟨s 9,m (l (.int .i64 1)),n,[]⟩])
(o 1 (.loop (q (q (r n [⟨s 59,m (t 9),n,[]⟩,⟨s 60,m (t 6),n,[]⟩,⟨s 61,b .lss .int (t 59) (t 60),n,[0,1]⟩])
(i (t 61) .skip (.exit 1)))
(q (o 2 (q (r n [⟨s 64,m (t 0),n,[]⟩,⟨s 65,m (t 1),n,[]⟩,⟨s 66,m (t 9),n,[]⟩,⟨s 67,b .add .int (t 65) (t 66),n,[1,2]⟩,⟨s 68,.idxS (t 64) (t 67),n,[0,3]⟩,⟨s 69,.cint .i64 (t 68),n,[4]⟩,⟨s 10,m (t 69),n,[5,0,1,2,3,4,5]⟩])
(q (q (r n [⟨s 70,m (t 10),n,[]⟩,⟨s 71,b .shr .int (t 70) (l (.int .u64 6)),n,[0]⟩,⟨s 72,b .neq .int (t 71) (l (.int .i64 2)),n,[1]⟩])
(i (t 72) (q (r n [⟨s 4,m (l (.int .i64 0)),n,[]⟩])
.ret) .skip))
(r n [⟨s 73,m (t 7),n,[]⟩,⟨s 74,b .shl .int (t 73) (l (.int .u64 6)),n,[0]⟩,⟨s 75,m (t 10),n,[]⟩,⟨s 76,b .and .int (t 75) (l (.int .i64 63)),n,[2]⟩,⟨s 77,b .or .int (t 74) (t 76),n,[1,3]⟩,⟨s 7,m (t 77),n,[4,0,1,2,3,4]⟩]))))
(r n [⟨s 62,m (t 9),n,[]⟩,⟨s 63,b .add .int (t 62) (l (.int .i64 1)),n,[0]⟩,⟨s 9,m (t 63),n,[1,0,1]⟩]))))))
(q (q (r n [⟨s 78,m (t 7),n,[]⟩,⟨s 79,m (t 8),n,[]⟩,⟨s 80,b .lss .int (t 78) (t 79),n,[0,1]⟩,⟨s 81,m (t 80),n,[2]⟩,⟨s 82,m (t 7),s (81,false),[3]⟩,⟨s 83,b .gtr .int (t 82) (l (.int .i64 1114111)),s (81,false),[4,3]⟩,⟨s 84,k (t 81) (l (.bool true)) (t 83),n,[3,5]⟩,⟨s 85,m (t 84),n,[6,3]⟩,⟨s 86,m (t 7),s (85,false),[7]⟩,⟨s 87,b .geq .int (t 86) (l (.int .i64 55296)),s (85,false),[8,7]⟩,⟨s 88,m (t 87),s (85,false),[9,7,7]⟩,⟨s 89,m (t 7),s (88,true),[10]⟩,⟨s 90,b .lss .int (t 89) (l (.int .i64 57344)),s (88,true),[11,10]⟩,⟨s 91,k (t 88) (t 90) (l (.bool false)),s (85,false),[10,12,7]⟩,⟨s 92,k (t 85) (l (.bool true)) (t 91),n,[7,13]⟩])
(i (t 92) (q (r n [⟨s 4,m (l (.int .i64 0)),n,[]⟩])
.ret) .skip))
(q (r n [⟨s 93,m (t 6),n,[]⟩,⟨s 4,m (t 93),n,[0,0]⟩])
.ret)))))))))}
theorem c_palinoderef1_Size : cFunc Try.prog n_palinoderef1_Size = some f_palinoderef1_Size := by kernel_rfl
def f_rev_New : SFunc := { ntmps := 7, results := [.tmp 0], body :=
(q (r n [⟨s 0,m (l .nilp),n,[]⟩])
(q (r n [⟨s 1,.mmap,n,[]⟩,⟨s 2,.bslc 1 [(.raw (.map n))] 1 [(0,1,(t 1))],n,[0]⟩,⟨s 3,.mmap,n,[]⟩,⟨s 4,.mmap,n,[]⟩,⟨s 5,.build [.nils,(.int .i64 0),(.raw (.map n)),(.raw (.map n))] [(0,1,(t 2)),(2,1,(t 3)),(3,1,(t 4))],n,[1,2,3]⟩,⟨s 6,.box (t 5),n,[4]⟩,⟨s 0,m (t 6),n,[5,0,1,2,3,4,5]⟩])
.ret))}
theorem c_rev_New : cFunc Try.prog n_rev_New = some f_rev_New := by kernel_rfl
def f_edit_Check : SFunc := { ntmps := 40, results := [.tmp 4], body :=
(q (r n [⟨s 2,.box (t 0),n,[]⟩,⟨s 4,m (l (.int .i64 0)),n,[]⟩])
(q (o 0 (q (r n [⟨s 9,d n (t 2),n,[]⟩,⟨s 10,c (l (.fn 26 [])) [(t 9)],n,[0]⟩,⟨s 11,.not (t 10),n,[1]⟩,⟨s 8,m (t 11),n,[2,1]⟩])
(i (t 8) (q (r n [⟨s 4,m (l (.int .i64 12)),n,[]⟩])
.ret) (q (r n [⟨s 13,m (t 1),n,[]⟩,⟨s 14,g (t 13),n,[0]⟩,⟨s 15,b .gtr .int (t 14) (l (.int .i64 8)),n,[1]⟩,⟨s 12,m (t 15),n,[2]⟩])
(i (t 12) (q (r n [⟨s 4,m (l (.int .i64 70)),n,[]⟩])
.ret) .skip)))))
(q (r n [⟨s 16,.mkfn 27 [(t 2)],n,[]⟩,⟨s 5,.alloc [(.raw .nilFunc)],n,[]⟩,⟨n,e 1 (t 5) (t 16),n,[1,0,0,1]⟩])
(q (q (r (s [0,0,3,0,0,31,0,127,0,511,0,0,4095,8191,16383,0]) [⟨s 17,m (t 1),n,[]⟩,⟨s 18,.mkfn 30 [(t 2)],n,[]⟩,⟨s 19,c (l (.fn 29 [])) [(t 17),(l (.int .i64 10)),(t 18)],n,[0,1]⟩,⟨s 20,m (t 1),n,[]⟩,⟨s 21,.mkfn 31 [(t 5)],n,[]⟩,⟨s 22,c (l (.fn 29 [])) [(t 20),(l (.int .i64 11)),(t 21)],n,[3,4,2]⟩,⟨s 23,m (t 1),n,[]⟩,⟨s 24,c (l (.fn 32 [])) [(t 23)],n,[6,5]⟩,⟨s 25,m (t 1),n,[]⟩,⟨s 26,c (l (.fn 29 [])) [(t 25),(l (.int .i64 12)),(l (.fn 33 []))],n,[8,7]⟩,⟨s 27,d n (t 2),n,[]⟩,⟨s 28,m (t 1),n,[]⟩,⟨s 29,c (l (.fn 34 [])) [(t 27),(t 28)],n,[10,11,9]⟩,⟨s 30,.bslc 1 [(.int .i64 0)] 5 [(0,1,(t 19)),(1,1,(t 22)),(2,1,(t 24)),(3,1,(t 26)),(4,1,(t 29))],n,[2,5,7,9,12]⟩,⟨s 31,g (t 30),n,[13]⟩,⟨s 32,m (l (.int .i64 0)),n,[]⟩])
(o 1 (.loop (q (r n [⟨s 33,b .lss .int (t 32) (t 31),n,[]⟩])
(q (i (t 33) .skip (.exit 1))
(q (o 2 (q (r n [⟨s 34,x 1 (t 30) (t 32),n,[]⟩,⟨s 35,d n (t 34),n,[0]⟩,⟨s 7,m (t 35),n,[1,0,1]⟩])
(q (r n [⟨s 36,m (t 7),n,[]⟩,⟨s 37,b .neq .int (t 36) (l (.int .i64 0)),n,[0]⟩])
(i (t 37) (q (r n [⟨s 38,m (t 7),n,[]⟩,⟨s 4,m (t 38),n,[0,0]⟩])
.ret) .skip))))
(r n [⟨s 39,b .add .int (t 32) (l (.int .i64 1)),n,[]⟩,⟨s 32,m (t 39),n,[0]⟩])))))))
(q (r n [⟨s 4,m (l (.int .i64 0)),n,[]⟩])
.ret)))))}
theorem c_edit_Check : cFunc Try.prog n_edit_Check = some f_edit_Check := by kernel_rfl
def f_engine_Engine_Copy : SFunc := { ntmps := 15, results := [.tmp 2], body :=
(q (r n [⟨s 2,m (l .nilp),n,[]⟩])
(q (r (s [0,1,3,7,15,0,32,96,224,511,1023,2047,4095]) [⟨s 3,m (t 0),n,[]⟩,⟨s 4,z (t 3),n,[0]⟩,⟨s 5,f 0 (t 4),n,[1]⟩,⟨s 6,d n (t 5),n,[2]⟩,⟨s 7,c (l (.fn 25 [])) [(t 6)],n,[3]⟩,⟨s 8,m (t 0),n,[]⟩,⟨s 9,z (t 8),n,[5]⟩,⟨s 10,f 1 (t 9),n,[6]⟩,⟨s 11,d n (t 10),n,[7]⟩,⟨s 12,c (l (.fn 35 [])) [(t 11)],n,[8,4]⟩,⟨s 13,.build [.nils,.nilp] [(0,1,(t 7)),(1,1,(t 12))],n,[4,9]⟩,⟨s 14,.box (t 13),n,[10]⟩,⟨s 2,m (t 14),n,[11,9,0,1,2,3,4,5,6,7,8,9,10,11]⟩])
.ret))}
theorem c_engine_Engine_Copy : cFunc Try.prog n_engine_Engine_Copy = some f_engine_Engine_Copy := by kernel_rfl
def f_rev_Revs_Add : SFunc := { ntmps := 44, results := [.tmp 4, .tmp 5], body :=
(q (r n [⟨s 4,m (l (.int .i64 0)),n,[]⟩,⟨s 5,m (l (.int .i64 0)),n,[0]⟩])
(q (q (r n [⟨s 11,m (t 0),n,[]⟩,⟨s 12,z (t 11),n,[0]⟩,⟨s 13,f 3 (t 12),n,[1]⟩,⟨s 14,d n (t 13),n,[2]⟩,⟨s 15,m (t 1),n,[]⟩,⟨s 16,.look (.agg []) true (t 14) (t 15),n,[3,4]⟩,⟨s 10,m (t 16),n,[5]⟩,⟨s 17,.ext (t 10) 0,n,[6]⟩,⟨s 18,.ext (t 10) 1,n,[6]⟩,⟨s 6,.alloc [],n,[]⟩,⟨n,e 0 (t 6) (t 17),n,[9,7,0,1,2,3,4,5,6,7,9]⟩,⟨s 7,m (t 18),n,[8,10,0,1,2,3,4,5,6,7,8,9,10]⟩])
(q (r n [⟨s 19,m (t 7),n,[]⟩,⟨s 20,m (t 19),n,[0]⟩,⟨s 21,m (t 1),s (20,false),[1]⟩,⟨s 22,b .lss .int (t 21) (l (.int .i64 0)),s (20,false),[2,1]⟩,⟨s 23,k (t 20) (l (.bool true)) (t 22),n,[1,3]⟩,⟨s 24,m (t 23),n,[4,1]⟩,⟨s 25,m (t 1),s (24,false),[5]⟩,⟨s 26,b .geq .int (t 25) (l (.int .i64 60)),s (24,false),[6,5]⟩,⟨s 27,k (t 24) (l (.bool true)) (t 26),n,[5,7]⟩])
(i (t 27) (q (r n [⟨s 4,m (l (.int .i64 0)),n,[]⟩,⟨s 5,m (l (.int .i64 210)),n,[0,0]⟩])
.ret) .skip)))
(q (q (r n [⟨s 29,m (t 0),n,[]⟩,⟨s 30,c (l (.fn 36 [])) [(t 29)],n,[0]⟩,⟨s 28,m (t 30),n,[1]⟩,⟨s 31,.ext (t 28) 0,n,[2]⟩,⟨s 32,.ext (t 28) 1,n,[2]⟩,⟨s 8,m (t 31),n,[3,1,0,1,2,3]⟩,⟨s 9,m (t 32),n,[4,5,0,1,2,3,4,5]⟩])
(q (r n [⟨s 33,m (t 9),n,[]⟩,⟨s 34,b .neq .int (t 33) (l (.int .i64 0)),n,[0]⟩])
(i (t 34) (q (r n [⟨s 35,m (t 9),n,[]⟩,⟨s 4,m (l (.int .i64 0)),n,[]⟩,⟨s 5,m (t 35),n,[0,1,0,1]⟩])
.ret) .skip)))
(q (r n [⟨s 36,m (t 0),n,[]⟩,⟨s 37,z (t 36),n,[0]⟩,⟨s 38,f 2 (t 37),n,[1]⟩,⟨s 39,d n (t 38),n,[2]⟩,⟨s 40,m (t 1),n,[]⟩,⟨s 41,.build [] [],n,[]⟩,⟨n,.mapUp (t 39) (t 40) (t 41),n,[3,4,5,0,1,2,3,4,5]⟩])
(q (r n [⟨s 42,m (t 0),n,[]⟩,⟨s 43,c (l (.fn 23 [])) [(t 42)],n,[0]⟩,⟨s 4,m (t 43),n,[1,1,0,1]⟩,⟨s 5,m (l (.int .i64 0)),n,[2,0,1,2]⟩])
.ret)))))}
theorem c_rev_Revs_Add : cFunc Try.prog n_rev_Revs_Add = some f_rev_Revs_Add := by kernel_rfl
def f_edit_Upon : SFunc := { ntmps := 125, results := [.tmp 14], body :=
(q (r n [⟨s 14,m (l .nils),n,[]⟩])
(q (r n [⟨s 25,m (t 0),n,[]⟩,⟨s 26,m (t 1),n,[]⟩,⟨s 27,m (t 2),n,[]⟩,⟨s 28,m (t 3),n,[]⟩,⟨s 29,m (t 6),n,[]⟩,⟨s 30,c (l (.fn 37 [])) [(t 25),(t 26),(t 27),(t 28),(t 29)],n,[0,1,2,3,4]⟩,⟨s 15,m (t 30),n,[5,5,0,1,2,3,4,5]⟩])
(q (q (r n [⟨s 31,m (t 0),n,[]⟩,⟨s 32,m (t 1),n,[]⟩,⟨s 33,m (t 2),n,[]⟩,⟨s 34,c (l (.fn 22 [])) [(t 31),(t 32),(t 33)],n,[0,1,2]⟩,⟨s 35,m (t 3),n,[]⟩,⟨s 36,c (l (.fn 15 [])) [(t 34),(t 35)],n,[3,4,3]⟩,⟨s 37,b .neq .int (t 36) (l (.int .i64 0)),n,[5]⟩])
(i (t 37) (q (r n [⟨s 38,m (t 0),n,[]⟩,⟨s 39,c (l (.fn 25 [])) [(t 38)],n,[0]⟩,⟨s 14,m (t 39),n,[1,1,0,1]⟩])
.ret) .skip))
(q (r n [⟨s 40,m (t 0),n,[]⟩,⟨s 41,g (t 40),n,[0]⟩,⟨s 42,.mslc 5 64 [(.str []),(.int .i64 0),(.int .i64 0),(.int .i64 0),.nils] (l (.int .i64 0)) (t 41),n,[1]⟩,⟨s 16,m (t 42),n,[2,0,1,2]⟩])
(q (r n [⟨s 43,m (t 0),n,[]⟩,⟨s 44,g (t 43),n,[0]⟩,⟨s 45,.mslc 1 1 [(.bool false)] (t 44) (t 44),n,[1,1]⟩,⟨s 17,m (t 45),n,[2,0,1,2]⟩])
(q (q (r n [⟨s 46,m (t 0),n,[]⟩,⟨s 47,m (t 1),n,[]⟩,⟨s 48,m (t 2),n,[]⟩,⟨s 49,m (t 3),n,[]⟩,⟨s 50,c (l (.fn 38 [])) [(t 46),(t 47),(t 48),(t 49)],n,[0,1,2,3]⟩,⟨s 51,g (t 50),n,[4]⟩,⟨s 52,m (l (.int .i64 0)),n,[]⟩])
(o 0 (.loop (q (r n [⟨s 53,b .lss .int (t 52) (t 51),n,[]⟩])
(q (i (t 53) .skip (.exit 0))
(q (o 1 (q (r n [⟨s 54,x 1 (t 50) (t 52),n,[]⟩,⟨s 55,d n (t 54),n,[0]⟩,⟨s 19,m (t 55),n,[1,0,1]⟩])
(r n [⟨s 56,m (t 17),n,[]⟩,⟨s 57,m (t 19),n,[]⟩,⟨s 58,x 1 (t 56) (t 57),n,[0,1,0,1]⟩,⟨n,e 1 (t 58) (l (.bool true)),n,[2,0,1]⟩])))
(r n [⟨s 59,b .add .int (t 52) (l (.int .i64 1)),n,[]⟩,⟨s 52,m (t 59),n,[0]⟩])))))))
(q (r n [⟨s 60,m (t 0),n,[]⟩,⟨s 61,g (t 60),n,[0]⟩,⟨s 62,.mslc 5 64 [(.str []),(.int .i64 0),(.int .i64 0),(.int .i64 0),.nils] (t 61) (t 61),n,[1,1]⟩,⟨s 20,m (t 62),n,[2,0,1,2]⟩])
(q (r n [⟨s 63,m (t 20),n,[]⟩,⟨s 64,m (t 0),n,[]⟩,⟨s 65,c (l (.fn 25 [])) [(t 64)],n,[1]⟩,⟨s 66,.copy 5 (t 63) (t 65),n,[0,2,2]⟩])
(q (q (r n [⟨s 67,m (t 20),n,[]⟩,⟨s 68,g (t 67),n,[0]⟩,⟨s 69,m (l (.int .i64 0)),n,[]⟩])
(o 2 (.loop (q (r n [⟨s 70,b .lss .int (t 69) (t 68),n,[]⟩])
(q (i (t 70) .skip (.exit 2))
(q (o 3 (q (r n [⟨s 71,m (t 69),n,[]⟩,⟨s 21,m (t 71),n,[0,0]⟩])
(q (r n [⟨s 72,m (t 17),n,[]⟩,⟨s 73,m (t 21),n,[]⟩,⟨s 74,x 1 (t 72) (t 73),n,[0,1]⟩,⟨s 75,d n (t 74),n,[2]⟩])
(i (t 75) (r n [⟨s 76,m (t 20),n,[]⟩,⟨s 77,m (t 21),n,[]⟩,⟨s 78,m (t 20),n,[]⟩,⟨s 79,m (t 21),n,[]⟩,⟨s 80,x 5 (t 78) (t 79),n,[2,3]⟩,⟨s 81,f 4 (t 80),n,[4]⟩,⟨s 82,d n (t 81),n,[5]⟩,⟨s 83,m (t 4),n,[]⟩,⟨s 84,m (t 5),n,[]⟩,⟨s 85,.build [(.int .i64 0),(.int .i64 0)] [(0,1,(t 83)),(1,1,(t 84))],n,[7,8]⟩,⟨s 86,.bslc 2 [(.int .i64 0),(.int .i64 0)] 1 [(0,2,(t 85))],n,[9]⟩,⟨s 87,.app 75 2 16 (t 82) (t 86),n,[6,10]⟩,⟨s 88,x 5 (t 76) (t 77),n,[0,1,0,1,2,3,4,5,6,7,8,9,10,11]⟩,⟨s 89,f 4 (t 88),n,[12,0,1,2,3,4,5,6,7,8,9,10,11]⟩,⟨n,e 1 (t 89) (t 87),n,[13,11,11,0,1,2,3,4,5,6,7,8,9,10,11]⟩]) .skip))))
(r n [⟨s 90,b .add .int (t 69) (l (.int .i64 1)),n,[]⟩,⟨s 69,m (t 90),n,[0]⟩])))))))
(q (r n [⟨s 22,m (l (.int .i64 0)),n,[]⟩])
(q (q (r n [⟨s 91,m (t 3),n,[]⟩,⟨s 92,g (t 91),n,[0]⟩,⟨s 93,m (l (.int .i64 0)),n,[]⟩])
(o 4 (.loop (q (r n [⟨s 94,b .lss .int (t 93) (t 92),n,[]⟩])
(q (i (t 94) .skip (.exit 4))
(q (o 5 (q (r n [⟨s 95,m (t 93),n,[]⟩,⟨s 96,x 3 (t 91) (t 93),n,[]⟩,⟨s 97,d (s 3) (t 96),n,[1]⟩,⟨s 24,.alloc [(.int .i64 0),(.int .i64 0),(.str [])],n,[]⟩,⟨s 23,m (t 95),n,[0,0,1,2,3]⟩,⟨n,e 3 (t 24) (t 97),n,[3,2,4,0,1,2,3,4]⟩])
(q (r n [⟨s 98,m (t 16),n,[]⟩,⟨s 99,m (t 20),n,[]⟩,⟨s 100,m (t 22),n,[]⟩,⟨s 101,m (t 15),n,[]⟩,⟨s 102,m (t 23),n,[]⟩,⟨s 103,x 1 (t 101) (t 102),n,[3,4]⟩,⟨s 104,d n (t 103),n,[5]⟩,⟨s 105,.slc 5 (t 99) (s (t 100)) (s (t 104)) n,n,[1,2,6]⟩,⟨s 106,.app 73 5 64 (t 98) (t 105),n,[0,7]⟩,⟨s 16,m (t 106),n,[8,8,0,1,2,3,4,5,6,7,8]⟩])
(q (r n [⟨s 107,m (t 16),n,[]⟩,⟨s 108,f 2 (t 24),n,[]⟩,⟨s 109,d n (t 108),n,[1]⟩,⟨s 110,m (t 4),n,[]⟩,⟨s 111,m (t 5),n,[]⟩,⟨s 112,m (t 6),n,[]⟩,⟨s 113,c (l (.fn 39 [])) [(l .nils),(l (.int .i64 0)),(t 109),(t 110),(t 111),(t 112)],n,[2,3,4,5]⟩,⟨s 114,.app 73 5 64 (t 107) (t 113),n,[0,6,6]⟩,⟨s 16,m (t 114),n,[7,7,0,1,2,3,4,5,6,7]⟩])
(r n [⟨s 115,m (t 15),n,[]⟩,⟨s 116,m (t 23),n,[]⟩,⟨s 117,x 1 (t 115) (t 116),n,[0,1]⟩,⟨s 118,d n (t 117),n,[2]⟩,⟨s 22,m (t 118),n,[3,0,1,2,3]⟩])))))
(r n [⟨s 119,b .add .int (t 93) (l (.int .i64 1)),n,[]⟩,⟨s 93,m (t 119),n,[0]⟩])))))))
(q (r n [⟨s 120,m (t 16),n,[]⟩,⟨s 121,m (t 20),n,[]⟩,⟨s 122,m (t 22),n,[]⟩,⟨s 123,.slc 5 (t 121) (s (t 122)) n n,n,[1,2]⟩,⟨s 124,.app 73 5 64 (t 120) (t 123),n,[0,3]⟩,⟨s 14,m (t 124),n,[4,4,0,1,2,3,4]⟩])
.ret))))))))))))}
theorem c_edit_Upon : cFunc Try.prog n_edit_Upon = some f_edit_Upon := by kernel_rfl
def f_engine_Engine_UndoneAt : SFunc := { ntmps := 11, results := [.tmp 4], body :=
(q (r n [⟨s 4,m (l .nils),n,[]⟩])
(q (r n [⟨s 5,m (t 0),n,[]⟩,⟨s 6,z (t 5),n,[0]⟩,⟨s 7,f 1 (t 6),n,[1]⟩,⟨s 8,d n (t 7),n,[2]⟩,⟨s 9,m (t 1),n,[]⟩,⟨s 10,c (l (.fn 40 [])) [(t 8),(t 9)],n,[3,4]⟩,⟨s 4,m (t 10),n,[5,5,0,1,2,3,4,5]⟩])
.ret))}
theorem c_engine_Engine_UndoneAt : cFunc Try.prog n_engine_Engine_UndoneAt = some f_engine_Engine_UndoneAt := by kernel_rfl
def f_engine_Engine_fits : SFunc := { ntmps := 15, results := [.tmp 2], body :=
(q (r n [⟨s 2,m (l (.bool false)),n,[]⟩])
(q (r n [⟨s 6,m (t 0),n,[]⟩,⟨s 7,m (t 0),n,[]⟩,⟨s 8,c (l (.fn 10 [])) [(t 7)],n,[1]⟩,⟨s 9,c (l (.fn 9 [])) [(t 6),(t 8)],n,[0,2,2]⟩,⟨s 5,m (t 9),n,[3]⟩,⟨s 10,.ext (t 5) 0,n,[4]⟩,⟨s 11,.ext (t 5) 1,n,[4]⟩,⟨s 3,m (t 10),n,[5,3,0,1,2,3,4,5]⟩,⟨s 4,m (t 11),n,[6,7,0,1,2,3,4,5,6,7]⟩])
(q (r n [⟨s 12,m (t 3),n,[]⟩,⟨s 13,.lenS (t 12),n,[0]⟩,⟨s 14,b .leq .int (t 13) (l (.int .i64 20000)),n,[1]⟩,⟨s 2,m (t 14),n,[2,0,1,2]⟩])
.ret)))}
theorem c_engine_Engine_fits : cFunc Try.prog n_engine_Engine_fits = some f_engine_Engine_fits := by kernel_rfl
def f_engine_Engine_Live : SFunc := { ntmps := 11, results := [.tmp 4], body :=
(q (r n [⟨s 4,m (l (.bool false)),n,[]⟩])
(q (r n [⟨s 5,m (t 0),n,[]⟩,⟨s 6,z (t 5),n,[0]⟩,⟨s 7,f 1 (t 6),n,[1]⟩,⟨s 8,d n (t 7),n,[2]⟩,⟨s 9,m (t 1),n,[]⟩,⟨s 10,c (l (.fn 41 [])) [(t 8),(t 9)],n,[3,4]⟩,⟨s 4,m (t 10),n,[5,5,0,1,2,3,4,5]⟩])
.ret))}
theorem c_engine_Engine_Live : cFunc Try.prog n_engine_Engine_Live = some f_engine_Engine_Live := by kernel_rfl
def f_atom_Text : SFunc := { ntmps := 25, results := [.tmp 6], body :=
(q (r n [⟨s 6,m (l (.str [])),n,[]⟩])
(q (r n [⟨s 7,.allocT 79 [.nilp,.nils],n,[]⟩])
(q (q (r n [⟨s 10,m (t 0),n,[]⟩,⟨s 11,g (t 10),n,[0]⟩,⟨s 12,m (l (.int .i64 0)),n,[]⟩])
(o 0 (.loop (q (r n [⟨s 13,b .lss .int (t 12) (t 11),n,[]⟩])
(q (i (t 13) .skip (.exit 0))
(q (o 1 (q (r n [⟨s 14,x 5 (t 10) (t 12),n,[]⟩,⟨s 15,d (s 5) (t 14),n,[0]⟩,⟨s 9,.alloc [(.str []),(.int .i64 0),(.int .i64 0),(.int .i64 0),.nils],n,[]⟩,⟨n,e 5 (t 9) (t 15),n,[2,1,0,1,2]⟩])
(q (r n [⟨s 16,d (s 5) (t 9),n,[]⟩,⟨s 17,m (t 1),n,[]⟩,⟨s 18,m (t 2),n,[]⟩,⟨s 19,c (l (.fn 42 [])) [(t 16),(t 17),(t 18)],n,[0,1,2]⟩])
(i (t 19) (r n [⟨s 20,f 0 (t 9),n,[]⟩,⟨s 21,d n (t 20),n,[0]⟩,⟨s 22,c (l (.fn 43 [])) [(t 7),(t 21)],n,[1]⟩]) .skip))))
(r n [⟨s 23,b .add .int (t 12) (l (.int .i64 1)),n,[]⟩,⟨s 12,m (t 23),n,[0]⟩])))))))
(q (r n [⟨s 24,c (l (.fn 44 [])) [(t 7)],n,[]⟩,⟨s 6,m (t 24),n,[0,0,0]⟩])
.ret))))}
theorem c_atom_Text : cFunc Try.prog n_atom_Text = some f_atom_Text := by kernel_rfl
def f_rev_Revs_Head : SFunc := { ntmps := 14, results := [.tmp 2], body :=
(q (r n [⟨s 2,m (l (.int .i64 0)),n,[]⟩])
(q (r (s [0,1,3,7,0,16,48,112,240,511,1023,2047]) [⟨s 3,m (t 0),n,[]⟩,⟨s 4,z (t 3),n,[0]⟩,⟨s 5,f 1 (t 4),n,[1]⟩,⟨s 6,d n (t 5),n,[2]⟩,⟨s 7,m (t 0),n,[]⟩,⟨s 8,z (t 7),n,[4]⟩,⟨s 9,f 0 (t 8),n,[5]⟩,⟨s 10,d n (t 9),n,[6]⟩,⟨s 11,g (t 10),n,[7]⟩,⟨s 12,b .add .int (t 6) (t 11),n,[3,8]⟩,⟨s 13,b .sub .int (t 12) (l (.int .i64 1)),n,[9]⟩,⟨s 2,m (t 13),n,[10,0,1,2,3,4,5,6,7,8,9,10]⟩])
.ret))}
theorem c_rev_Revs_Head : cFunc Try.prog n_rev_Revs_Head = some f_rev_Revs_Head := by kernel_rfl
def f_rev_Revs_Toggle : SFunc := { ntmps := 36, results := [.tmp 4, .tmp 5], body :=
(q (r n [⟨s 4,m (l (.int .i64 0)),n,[]⟩,⟨s 5,m (l (.int .i64 0)),n,[0]⟩])
(q (q (r n [⟨s 10,m (t 0),n,[]⟩,⟨s 11,m (t 1),n,[]⟩,⟨s 12,c (l (.fn 45 [])) [(t 10),(t 11)],n,[0,1]⟩,⟨s 13,.not (t 12),n,[2]⟩])
(i (t 13) (q (r n [⟨s 4,m (l (.int .i64 0)),n,[]⟩,⟨s 5,m (l (.int .i64 210)),n,[0,0]⟩])
.ret) .skip))
(q (r n [⟨s 15,m (t 0),n,[]⟩,⟨s 16,c (l (.fn 36 [])) [(t 15)],n,[0]⟩,⟨s 14,m (t 16),n,[1]⟩,⟨s 17,.ext (t 14) 0,n,[2]⟩,⟨s 18,.ext (t 14) 1,n,[2]⟩,⟨s 6,m (t 17),n,[3,1,0,1,2,3]⟩,⟨s 7,m (t 18),n,[4,5,0,1,2,3,4,5]⟩])
(q (q (r n [⟨s 19,m (t 7),n,[]⟩,⟨s 20,b .neq .int (t 19) (l (.int .i64 0)),n,[0]⟩])
(i (t 20) (q (r n [⟨s 21,m (t 7),n,[]⟩,⟨s 4,m (l (.int .i64 0)),n,[]⟩,⟨s 5,m (t 21),n,[0,1,0,1]⟩])
.ret) .skip))
(q (q (r n [⟨s 23,m (t 6),n,[]⟩,⟨s 24,m (t 1),n,[]⟩,⟨s 25,.look (.agg []) true (t 23) (t 24),n,[0,1]⟩,⟨s 22,m (t 25),n,[2]⟩,⟨s 26,.ext (t 22) 0,n,[3]⟩,⟨s 27,.ext (t 22) 1,n,[3]⟩,⟨s 8,.alloc [],n,[]⟩,⟨n,e 0 (t 8) (t 26),n,[6,4,0,1,2,3,4,6]⟩,⟨s 9,m (t 27),n,[5,7,0,1,2,3,4,5,6,7]⟩])
(q (r n [⟨s 28,m (t 9),n,[]⟩])
(i (t 28) (r n [⟨s 29,m (t 6),n,[]⟩,⟨s 30,m (t 1),n,[]⟩,⟨n,.del (t 29) (t 30),n,[0,1]⟩]) (r n [⟨s 31,m (t 6),n,[]⟩,⟨s 32,m (t 1),n,[]⟩,⟨s 33,.build [] [],n,[]⟩,⟨n,.mapUp (t 31) (t 32) (t 33),n,[0,1,2,0,1,2]⟩]))))
(q (r n [⟨s 34,m (t 0),n,[]⟩,⟨s 35,c (l (.fn 23 [])) [(t 34)],n,[0]⟩,⟨s 4,m (t 35),n,[1,1,0,1]⟩,⟨s 5,m (l (.int .i64 0)),n,[2,0,1,2]⟩])
.ret))))))}
theorem c_rev_Revs_Toggle : cFunc Try.prog n_rev_Revs_Toggle = some f_rev_Revs_Toggle := by kernel_rfl
def f_atom_Copy : SFunc := { ntmps := 28, results := [.tmp 2], body :=
(q (r n [⟨s 2,m (l .nils),n,[]⟩])
(q (r n [⟨s 5,m (t 0),n,[]⟩,⟨s 6,g (t 5),n,[0]⟩,⟨s 7,.mslc 5 64 [(.str []),(.int .i64 0),(.int .i64 0),(.int .i64 0),.nils] (t 6) (t 6),n,[1,1]⟩,⟨s 3,m (t 7),n,[2,0,1,2]⟩])
(q (r n [⟨s 8,m (t 3),n,[]⟩,⟨s 9,m (t 0),n,[]⟩,⟨s 10,.copy 5 (t 8) (t 9),n,[0,1]⟩])
(q (q (r n [⟨s 11,m (t 3),n,[]⟩,⟨s 12,g (t 11),n,[0]⟩,⟨s 13,m (l (.int .i64 0)),n,[]⟩])
(o 0 (.loop (q (r n [⟨s 14,b .lss .int (t 13) (t 12),n,[]⟩])
(q (i (t 14) .skip (.exit 0))
(q (o 1 (q (r n [⟨s 15,m (t 13),n,[]⟩,⟨s 4,m (t 15),n,[0,0]⟩])
(r n [⟨s 16,m (t 3),n,[]⟩,⟨s 17,m (t 4),n,[]⟩,⟨s 18,m (t 3),n,[]⟩,⟨s 19,m (t 4),n,[]⟩,⟨s 20,x 5 (t 18) (t 19),n,[2,3]⟩,⟨s 21,f 4 (t 20),n,[4]⟩,⟨s 22,d n (t 21),n,[5]⟩,⟨s 23,c (l (.fn 46 [])) [(t 22)],n,[6]⟩,⟨s 24,x 5 (t 16) (t 17),n,[0,1,0,1,2,3,4,5,6,7]⟩,⟨s 25,f 4 (t 24),n,[8,0,1,2,3,4,5,6,7]⟩,⟨n,e 1 (t 25) (t 23),n,[9,7,7,0,1,2,3,4,5,6,7]⟩])))
(r n [⟨s 26,b .add .int (t 13) (l (.int .i64 1)),n,[]⟩,⟨s 13,m (t 26),n,[0]⟩])))))))
(q (r n [⟨s 27,m (t 3),n,[]⟩,⟨s 2,m (t 27),n,[0,0]⟩])
.ret)))))}
theorem c_atom_Copy : cFunc Try.prog n_atom_Copy = some f_atom_Copy := by kernel_rfl
def f_utf_Valid : SFunc := { ntmps := 17, results := [.tmp 2], body :=
(q (r n [⟨s 2,m (l (.bool false)),n,[]⟩])
(q (q (r n [⟨s 3,m (l (.int .i64 0)),n,[]⟩])
(o 0 (.loop (q (q (r n [⟨s 5,m (t 3),n,[]⟩,⟨s 6,m (t 0),n,[]⟩,⟨s 7,.lenS (t 6),n,[1]⟩,⟨s 8,b .lss .int (t 5) (t 7),n,[0,2]⟩])
(i (t 8) .skip (.exit 0)))
(o 1 (q (r n [⟨s 9,m (t 0),n,[]⟩,⟨s 10,m (t 3),n,[]⟩,⟨s 11,c (l (.fn 47 [])) [(t 9),(t 10)],n,[0,1]⟩,⟨s 4,m (t 11),n,[2,2,0,1,2]⟩])
(q (q (r n [⟨s 12,m (t 4),n,[]⟩,⟨s 13,b .eql .int (t 12) (l (.int .i64 0)),n,[0]⟩])
(i (t 13) (q (r n [⟨s 2,m (l (.bool false)),n,[]⟩])
.ret) .skip))
(r n [⟨s 14,m (t 3),n,[]⟩,⟨s 15,m (t 4),n,[]⟩,⟨s 16,b .add .int (t 14) (t 15),n,[0,1]⟩,⟨s 3,m (t 16),n,[2,0,1,2]⟩]))))))))
(q (r n [⟨s 2,m (l (.bool true)),n,[]⟩])
.ret)))}
theorem c_utf_Valid : cFunc Try.prog n_utf_Valid = some f_utf_Valid := by kernel_rfl
def f_edit_Check_1 : SFunc := { ntmps := 7, results := [.tmp 3], body :=
(q (r n [⟨s 3,m (l (.bool false)),n,[]⟩])
(q (r n [⟨s 4,d n (t 1),n,[]⟩,⟨s 5,m (t 0),n,[]⟩,⟨s 6,c (l (.fn 28 [])) [(t 4),(t 5)],n,[0,1]⟩,⟨s 3,m (t 6),n,[2,2,0,1,2]⟩])
.ret))}
theorem c_edit_Check_1 : cFunc Try.prog n_edit_Check_1 = some f_edit_Check_1 := by kernel_rfl
def f_utf_IsEdge : SFunc := { ntmps := 30, results := [.tmp 4], body :=
(q (r n [⟨s 4,m (l (.bool false)),n,[]⟩])
(q (r n [⟨s 5,m (t 1),n,[]⟩,⟨s 6,b .geq .int (t 5) (l (.int .i64 0)),n,[0]⟩,⟨s 7,m (t 6),n,[1]⟩,⟨s 8,m (t 1),s (7,true),[2]⟩,⟨s 9,m (t 0),s (7,true),[2]⟩,⟨s 10,.lenS (t 9),s (7,true),[4,2]⟩,⟨s 11,b .leq .int (t 8) (t 10),s (7,true),[3,5,2]⟩,⟨s 12,k (t 7) (t 11) (l (.bool false)),n,[2,6]⟩,⟨s 13,m (t 12),n,[7,2]⟩,⟨s 14,m (t 1),s (13,true),[8]⟩,⟨s 15,m (t 0),s (13,true),[8]⟩,⟨s 16,.lenS (t 15),s (13,true),[10,8]⟩,⟨s 17,b .eql .int (t 14) (t 16),s (13,true),[9,11,8]⟩,⟨s 18,m (t 17),s (13,true),[12,8,8]⟩,⟨s 19,m (t 0),s (18,false),[13]⟩,⟨s 20,m (t 1),s (18,false),[13]⟩,⟨s 21,.idxS (t 19) (t 20),s (18,false),[14,15,13]⟩,⟨s 22,b .and .int (t 21) (l (.int .u8 192)),s (18,false),[16,13]⟩,⟨s 23,b .neq .int (t 22) (l (.int .u8 128)),s (18,false),[17,13]⟩,⟨s 24,k (t 18) (l (.bool true)) (t 23),s (13,true),[13,18,8]⟩,⟨s 25,k (t 13) (t 24) (l (.bool false)),n,[8,19]⟩,⟨s 26,m (t 25),n,[20,13]⟩,⟨s 27,m (t 0),s (26,true),[21]⟩,⟨s 28,c (l (.fn 26 [])) [(t 27)],s (26,true),[22,21,21]⟩,⟨s 29,k (t 26) (t 28) (l (.bool false)),n,[21,23]⟩,⟨s 4,m (t 29),n,[24,23,0,1,2,3,4,5,6,7,8,9,10,11,12,13,14,15,16,17,18,19,20,21,22,23,24]⟩])
.ret))}
theorem c_utf_IsEdge : cFunc Try.prog n_utf_IsEdge = some f_utf_IsEdge := by kernel_rfl
def f_edit_first : SFunc := { ntmps := 20, results := [.tmp 6], body :=
(q (r n [⟨s 6,m (l (.int .i64 0)),n,[]⟩])
(q (q (r n [⟨s 9,m (t 0),n,[]⟩,⟨s 10,g (t 9),n,[0]⟩,⟨s 11,m (l (.int .i64 0)),n,[]⟩])
(o 0 (.loop (q (r n [⟨s 12,b .lss .int (t 11) (t 10),n,[]⟩])
(q (i (t 12) .skip (.exit 0))
(q (o 1 (q (r n [⟨s 13,x 3 (t 9) (t 11),n,[]⟩,⟨s 14,d (s 3) (t 13),n,[0]⟩,⟨s 8,.alloc [(.int .i64 0),(.int .i64 0),(.str [])],n,[]⟩,⟨n,e 3 (t 8) (t 14),n,[2,1,0,1,2]⟩])
(q (r n [⟨s 15,m (t 2),n,[]⟩,⟨s 16,d (s 3) (t 8),n,[]⟩,⟨s 17,c (t 15) [(t 16)],n,[0,1]⟩])
(i (t 17) (q (r n [⟨s 18,m (t 1),n,[]⟩,⟨s 6,m (t 18),n,[0,0]⟩])
.ret) .skip))))
(r n [⟨s 19,b .add .int (t 11) (l (.int .i64 1)),n,[]⟩,⟨s 11,m (t 19),n,[0]⟩])))))))
(q (r n [⟨s 6,m (l (.int .i64 0)),n,[]⟩])
.ret)))}
theorem c_edit_first : cFunc Try.prog n_edit_first = some f_edit_first := by kernel_rfl
def f_edit_Check_2 : SFunc := { ntmps := 21, results := [.tmp 3], body :=
(q (r n [⟨s 2,.box (t 0),n,[]⟩,⟨s 3,m (l (.bool false)),n,[]⟩])
(q (r n [⟨s 4,f 0 (t 2),n,[]⟩,⟨s 5,d n (t 4),n,[0]⟩,⟨s 6,b .lss .int (t 5) (l (.int .i64 0)),n,[1]⟩,⟨s 7,m (t 6),n,[2]⟩,⟨s 8,f 0 (t 2),s (7,false),[3]⟩,⟨s 9,d n (t 8),s (7,false),[4,3]⟩,⟨s 10,f 1 (t 2),s (7,false),[3]⟩,⟨s 11,d n (t 10),s (7,false),[6,3]⟩,⟨s 12,b .gtr .int (t 9) (t 11),s (7,false),[5,7,3]⟩,⟨s 13,k (t 7) (l (.bool true)) (t 12),n,[3,8]⟩,⟨s 14,m (t 13),n,[9,3]⟩,⟨s 15,f 1 (t 2),s (14,false),[10]⟩,⟨s 16,d n (t 15),s (14,false),[11,10]⟩,⟨s 17,d n (t 1),s (14,false),[10]⟩,⟨s 18,.lenS (t 17),s (14,false),[13,10]⟩,⟨s 19,b .gtr .int (t 16) (t 18),s (14,false),[12,14,10]⟩,⟨s 20,k (t 14) (l (.bool true)) (t 19),n,[10,15]⟩,⟨s 3,m (t 20),n,[16,10,0,1,2,3,4,5,6,7,8,9,10,11,12,13,14,15,16]⟩])
.ret))}
theorem c_edit_Check_2 : cFunc Try.prog n_edit_Check_2 = some f_edit_Check_2 := by kernel_rfl
def f_edit_Check_3 : SFunc := { ntmps := 16, results := [.tmp 3], body :=
(q (r n [⟨s 2,.box (t 0),n,[]⟩,⟨s 3,m (l (.bool false)),n,[]⟩])
(q (r n [⟨s 4,d n (t 1),n,[]⟩,⟨s 5,f 0 (t 2),n,[]⟩,⟨s 6,d n (t 5),n,[1]⟩,⟨s 7,c (t 4) [(t 6)],n,[0,2]⟩,⟨s 8,.not (t 7),n,[3]⟩,⟨s 9,m (t 8),n,[4,3]⟩,⟨s 10,d n (t 1),s (9,false),[5]⟩,⟨s 11,f 1 (t 2),s (9,false),[5]⟩,⟨s 12,d n (t 11),s (9,false),[7,5]⟩,⟨s 13,c (t 10) [(t 12)],s (9,false),[6,8,5,5]⟩,⟨s 14,.not (t 13),s (9,false),[9,5]⟩,⟨s 15,k (t 9) (l (.bool true)) (t 14),n,[5,10]⟩,⟨s 3,m (t 15),n,[11,9,0,1,2,3,4,5,6,7,8,9,10,11]⟩])
.ret))}
theorem c_edit_Check_3 : cFunc Try.prog n_edit_Check_3 = some f_edit_Check_3 := by kernel_rfl
def f_edit_order : SFunc := { ntmps := 40, results := [.tmp 2], body :=
(q (r n [⟨s 2,m (l (.int .i64 0)),n,[]⟩])
(q (q (r n [⟨s 3,m (l (.int .i64 1)),n,[]⟩])
(o 0 (.loop (q (q (r n [⟨s 6,m (t 3),n,[]⟩,⟨s 7,m (t 0),n,[]⟩,⟨s 8,g (t 7),n,[1]⟩,⟨s 9,b .lss .int (t 6) (t 8),n,[0,2]⟩])
(i (t 9) .skip (.exit 0)))
(q (o 1 (q (.regA [0,0,2,7,15,0,0,96,224,0,0,1567,4095] [⟨s 12,m (t 0),n,[]⟩,⟨s 13,m (t 3),n,[]⟩,⟨s 14,b .sub .int (t 13) (l (.int .i64 1)),n,[1]⟩,⟨s 15,x 3 (t 12) (t 14),n,[0,2]⟩,⟨s 16,d (s 3) (t 15),n,[3]⟩,⟨s 17,m (t 0),n,[]⟩,⟨s 18,m (t 3),n,[]⟩,⟨s 19,x 3 (t 17) (t 18),n,[5,6]⟩,⟨s 20,d (s 3) (t 19),n,[7]⟩,⟨s 4,.lay 0 [(.int .i64 0),(.int .i64 0),(.str [])],n,[]⟩,⟨s 5,.lay 1 [(.int .i64 0),(.int .i64 0),(.str [])],n,[]⟩,⟨n,e 3 (t 4) (t 16),n,[9,4,0,1,2,3,4,9,10]⟩,⟨n,e 3 (t 5) (t 20),n,[10,8,11,0,1,2,3,4,5,6,7,8,9,10,11]⟩])
(q (r n [⟨s 21,f 0 (t 5),n,[]⟩,⟨s 22,d n (t 21),n,[0]⟩,⟨s 23,f 1 (t 4),n,[]⟩,⟨s 24,d n (t 23),n,[2]⟩,⟨s 25,b .lss .int (t 22) (t 24),n,[1,3]⟩,⟨s 26,m (t 25),n,[4]⟩,⟨s 27,f 0 (t 4),s (26,false),[5]⟩,⟨s 28,d n (t 27),s (26,false),[6,5]⟩,⟨s 29,f 0 (t 5),s (26,false),[5]⟩,⟨s 30,d n (t 29),s (26,false),[8,5]⟩,⟨s 31,b .eql .int (t 28) (t 30),s (26,false),[7,9,5]⟩,⟨s 32,m (t 31),s (26,false),[10,5,5]⟩,⟨s 33,f 1 (t 4),s (32,true),[11]⟩,⟨s 34,d n (t 33),s (32,true),[12,11]⟩,⟨s 35,f 0 (t 5),s (32,true),[11]⟩,⟨s 36,d n (t 35),s (32,true),[14,11]⟩,⟨s 37,b .eql .int (t 34) (t 36),s (32,true),[13,15,11]⟩,⟨s 38,k (t 32) (t 37) (l (.bool false)),s (26,false),[11,16,5]⟩,⟨s 39,k (t 26) (l (.bool true)) (t 38),n,[5,17]⟩])
(i (t 39) (q (r n [⟨s 2,m (l (.int .i64 180)),n,[]⟩])
.ret) .skip))))
(r n [⟨s 10,m (t 3),n,[]⟩,⟨s 11,b .add .int (t 10) (l (.int .i64 1)),n,[0]⟩,⟨s 3,m (t 11),n,[1,0,1]⟩]))))))
(q (r n [⟨s 2,m (l (.int .i64 0)),n,[]⟩])
.ret)))}
theorem c_edit_order : cFunc Try.prog n_edit_order = some f_edit_order := by kernel_rfl
def f_edit_Check_4 : SFunc := { ntmps := 7, results := [.tmp 2], body :=
(q (r n [⟨s 1,.box (t 0),n,[]⟩,⟨s 2,m (l (.bool false)),n,[]⟩])
(q (r n [⟨s 3,f 2 (t 1),n,[]⟩,⟨s 4,d n (t 3),n,[0]⟩,⟨s 5,c (l (.fn 26 [])) [(t 4)],n,[1]⟩,⟨s 6,.not (t 5),n,[2]⟩,⟨s 2,m (t 6),n,[3,2,0,1,2,3]⟩])
.ret))}
theorem c_edit_Check_4 : cFunc Try.prog n_edit_Check_4 = some f_edit_Check_4 := by kernel_rfl
def f_edit_long : SFunc := { ntmps := 50, results := [.tmp 4], body :=
(q (r n [⟨s 4,m (l (.int .i64 0)),n,[]⟩])
(q (r n [⟨s 10,m (t 0),n,[]⟩,⟨s 11,.lenS (t 10),n,[0]⟩,⟨s 12,b .sub .int (l (.int .i64 20000)) (t 11),n,[1]⟩,⟨s 5,m (t 12),n,[2,0,1,2]⟩])
(q (q (r n [⟨s 13,m (t 1),n,[]⟩,⟨s 14,g (t 13),n,[0]⟩,⟨s 15,m (l (.int .i64 0)),n,[]⟩])
(o 0 (.loop (q (r n [⟨s 16,b .lss .int (t 15) (t 14),n,[]⟩])
(q (i (t 16) .skip (.exit 0))
(q (o 1 (q (r n [⟨s 17,x 3 (t 13) (t 15),n,[]⟩,⟨s 18,d (s 3) (t 17),n,[0]⟩,⟨s 7,.alloc [(.int .i64 0),(.int .i64 0),(.str [])],n,[]⟩,⟨n,e 3 (t 7) (t 18),n,[2,1,0,1,2]⟩])
(r n [⟨s 19,m (t 5),n,[]⟩,⟨s 20,f 1 (t 7),n,[]⟩,⟨s 21,d n (t 20),n,[1]⟩,⟨s 22,f 0 (t 7),n,[]⟩,⟨s 23,d n (t 22),n,[3]⟩,⟨s 24,b .sub .int (t 21) (t 23),n,[2,4]⟩,⟨s 25,.maxs (t 24) [(l (.int .i64 0))],n,[5]⟩,⟨s 26,m (t 0),n,[]⟩,⟨s 27,.lenS (t 26),n,[7]⟩,⟨s 28,.mins (t 25) [(t 27)],n,[6,8]⟩,⟨s 29,b .add .int (t 19) (t 28),n,[0,9]⟩,⟨s 5,m (t 29),n,[10,0,1,2,3,4,5,6,7,8,9,10]⟩])))
(r n [⟨s 30,b .add .int (t 15) (l (.int .i64 1)),n,[]⟩,⟨s 15,m (t 30),n,[0]⟩])))))))
(q (q (r n [⟨s 31,m (t 1),n,[]⟩,⟨s 32,g (t 31),n,[0]⟩,⟨s 33,m (l (.int .i64 0)),n,[]⟩])
(o 2 (.loop (q (r n [⟨s 34,b .lss .int (t 33) (t 32),n,[]⟩])
(q (i (t 34) .skip (.exit 2))
(q (o 3 (q (r n [⟨s 35,x 3 (t 31) (t 33),n,[]⟩,⟨s 36,d (s 3) (t 35),n,[0]⟩,⟨s 9,.alloc [(.int .i64 0),(.int .i64 0),(.str [])],n,[]⟩,⟨n,e 3 (t 9) (t 36),n,[2,1,0,1,2]⟩])
(q (q (r n [⟨s 37,f 2 (t 9),n,[]⟩,⟨s 38,d n (t 37),n,[0]⟩,⟨s 39,.lenS (t 38),n,[1]⟩,⟨s 40,m (t 5),n,[]⟩,⟨s 41,b .gtr .int (t 39) (t 40),n,[2,3]⟩])
(i (t 41) (q (r n [⟨s 4,m (l (.int .i64 13)),n,[]⟩])
.ret) .skip))
(r n [⟨s 42,m (t 5),n,[]⟩,⟨s 43,f 2 (t 9),n,[]⟩,⟨s 44,d n (t 43),n,[1]⟩,⟨s 45,.lenS (t 44),n,[2]⟩,⟨s 46,b .sub .int (t 42) (t 45),n,[0,3]⟩,⟨s 5,m (t 46),n,[4,0,1,2,3,4]⟩]))))
(r n [⟨s 47,b .add .int (t 33) (l (.int .i64 1)),n,[]⟩,⟨s 33,m (t 47),n,[0]⟩])))))))
(q (q (r n [⟨s 48,m (t 5),n,[]⟩,⟨s 49,b .lss .int (t 48) (l (.int .i64 0)),n,[0]⟩])
(i (t 49) (q (r n [⟨s 4,m (l (.int .i64 13)),n,[]⟩])
.ret) .skip))
(q (r n [⟨s 4,m (l (.int .i64 0)),n,[]⟩])
.ret))))))}
theorem c_edit_long : cFunc Try.prog n_edit_long = some f_edit_long := by kernel_rfl
def f_rev_Revs_Copy : SFunc := { ntmps := 44, results := [.tmp 2], body :=
(q (r n [⟨s 2,m (l .nilp),n,[]⟩])
(q (r (s [0,1,3,7,0,16,48,112,240,0,512,1536,3584,8176,16383,32767,65535]) [⟨s 6,m (t 0),n,[]⟩,⟨s 7,z (t 6),n,[0]⟩,⟨s 8,f 1 (t 7),n,[1]⟩,⟨s 9,d n (t 8),n,[2]⟩,⟨s 10,m (t 0),n,[]⟩,⟨s 11,z (t 10),n,[4]⟩,⟨s 12,f 2 (t 11),n,[5]⟩,⟨s 13,d n (t 12),n,[6]⟩,⟨s 14,c (l (.fn 48 [])) [(t 13)],n,[7]⟩,⟨s 15,m (t 0),n,[]⟩,⟨s 16,z (t 15),n,[9]⟩,⟨s 17,f 3 (t 16),n,[10]⟩,⟨s 18,d n (t 17),n,[11]⟩,⟨s 19,c (l (.fn 48 [])) [(t 18)],n,[12,8]⟩,⟨s 20,.build [.nils,(.int .i64 0),(.raw (.map n)),(.raw (.map n))] [(1,1,(t 9)),(2,1,(t 14)),(3,1,(t 19))],n,[3,8,13]⟩,⟨s 21,.box (t 20),n,[14]⟩,⟨s 3,m (t 21),n,[15,13,0,1,2,3,4,5,6,7,8,9,10,11,12,13,14,15]⟩])
(q (q (r n [⟨s 22,m (t 0),n,[]⟩,⟨s 23,z (t 22),n,[0]⟩,⟨s 24,f 0 (t 23),n,[1]⟩,⟨s 25,d n (t 24),n,[2]⟩,⟨s 26,g (t 25),n,[3]⟩,⟨s 27,m (l (.int .i64 0)),n,[]⟩])
(o 0 (.loop (q (r n [⟨s 28,b .lss .int (t 27) (t 26),n,[]⟩])
(q (i (t 28) .skip (.exit 0))
(q (o 1 (q (r n [⟨s 29,x 1 (t 25) (t 27),n,[]⟩,⟨s 30,d n (t 29),n,[0]⟩,⟨s 5,m (t 30),n,[1,0,1]⟩])
(r (s [0,0,2,6,14,0,32,96,254,511,1023,2047]) [⟨s 31,m (t 3),n,[]⟩,⟨s 32,m (t 3),n,[]⟩,⟨s 33,z (t 32),n,[1]⟩,⟨s 34,f 0 (t 33),n,[2]⟩,⟨s 35,d n (t 34),n,[3]⟩,⟨s 36,m (t 5),n,[]⟩,⟨s 37,c (l (.fn 48 [])) [(t 36)],n,[5]⟩,⟨s 38,.bslc 1 [(.raw (.map n))] 1 [(0,1,(t 37))],n,[6]⟩,⟨s 39,.app 56 1 8 (t 35) (t 38),n,[4,7,6]⟩,⟨s 40,z (t 31),n,[0,0,1,2,3,4,5,6,7,8]⟩,⟨s 41,f 0 (t 40),n,[9,0,1,2,3,4,5,6,7,8]⟩,⟨n,e 1 (t 41) (t 39),n,[10,8,8,0,1,2,3,4,5,6,7,8]⟩])))
(r n [⟨s 42,b .add .int (t 27) (l (.int .i64 1)),n,[]⟩,⟨s 27,m (t 42),n,[0]⟩])))))))
(q (r n [⟨s 43,m (t 3),n,[]⟩,⟨s 2,m (t 43),n,[0,0]⟩])
.ret))))}
theorem c_rev_Revs_Copy : cFunc Try.prog n_rev_Revs_Copy = some f_rev_Revs_Copy := by kernel_rfl
def f_rev_Revs_next : SFunc := { ntmps := 32, results := [.tmp 2, .tmp 3], body :=
(q (r n [⟨s 2,m (l .nilm),n,[]⟩,⟨s 3,m (l (.int .i64 0)),n,[0]⟩])
(q (q (r n [⟨s 5,m (t 0),n,[]⟩,⟨s 6,c (l (.fn 23 [])) [(t 5)],n,[0]⟩,⟨s 7,b .geq .int (t 6) (l (.int .i64 200)),n,[1]⟩])
(i (t 7) (q (r n [⟨s 2,m (l .nilm),n,[]⟩,⟨s 3,m (l (.int .i64 70)),n,[0,0]⟩])
.ret) .skip))
(q (r (s [0,1,3,7,0,16,48,112,240,496,1023,2047,4095,8191]) [⟨s 8,m (t 0),n,[]⟩,⟨s 9,z (t 8),n,[0]⟩,⟨s 10,f 0 (t 9),n,[1]⟩,⟨s 11,d n (t 10),n,[2]⟩,⟨s 12,m (t 0),n,[]⟩,⟨s 13,z (t 12),n,[4]⟩,⟨s 14,f 0 (t 13),n,[5]⟩,⟨s 15,d n (t 14),n,[6]⟩,⟨s 16,g (t 15),n,[7]⟩,⟨s 17,b .sub .int (t 16) (l (.int .i64 1)),n,[8]⟩,⟨s 18,x 1 (t 11) (t 17),n,[3,9]⟩,⟨s 19,d n (t 18),n,[10]⟩,⟨s 20,c (l (.fn 48 [])) [(t 19)],n,[11]⟩,⟨s 4,m (t 20),n,[12,12,0,1,2,3,4,5,6,7,8,9,10,11,12]⟩])
(q (r n [⟨s 21,m (t 0),n,[]⟩,⟨s 22,m (t 0),n,[]⟩,⟨s 23,z (t 22),n,[1]⟩,⟨s 24,f 0 (t 23),n,[2]⟩,⟨s 25,d n (t 24),n,[3]⟩,⟨s 26,m (t 4),n,[]⟩,⟨s 27,.bslc 1 [(.raw (.map n))] 1 [(0,1,(t 26))],n,[5]⟩,⟨s 28,.app 56 1 8 (t 25) (t 27),n,[4,6]⟩,⟨s 29,z (t 21),n,[0,0,1,2,3,4,5,6,7]⟩,⟨s 30,f 0 (t 29),n,[8,0,1,2,3,4,5,6,7]⟩,⟨n,e 1 (t 30) (t 28),n,[9,7,7,0,1,2,3,4,5,6,7]⟩])
(q (r n [⟨s 31,m (t 4),n,[]⟩,⟨s 2,m (t 31),n,[0,0]⟩,⟨s 3,m (l (.int .i64 0)),n,[1,0,1]⟩])
.ret)))))}
theorem c_rev_Revs_next : cFunc Try.prog n_rev_Revs_next = some f_rev_Revs_next := by kernel_rfl
def f_edit_Spots : SFunc := { ntmps := 45, results := [.tmp 10], body :=
(q (r n [⟨s 10,m (l .nils),n,[]⟩])
(q (q (r n [⟨s 15,m (t 0),n,[]⟩,⟨s 16,m (t 1),n,[]⟩,⟨s 17,m (t 2),n,[]⟩,⟨s 18,c (l (.fn 22 [])) [(t 15),(t 16),(t 17)],n,[0,1,2]⟩,⟨s 19,m (t 3),n,[]⟩,⟨s 20,c (l (.fn 15 [])) [(t 18),(t 19)],n,[3,4,3]⟩,⟨s 21,b .neq .int (t 20) (l (.int .i64 0)),n,[5]⟩])
(i (t 21) (q (r n [⟨s 10,m (l .nils),n,[]⟩])
.ret) .skip))
(q (r n [⟨s 22,m (t 0),n,[]⟩,⟨s 23,m (t 1),n,[]⟩,⟨s 24,m (t 2),n,[]⟩,⟨s 25,c (l (.fn 49 [])) [(t 22),(t 23),(t 24)],n,[0,1,2]⟩,⟨s 11,m (t 25),n,[3,3,0,1,2,3]⟩])
(q (r n [⟨s 12,m (l .nils),n,[]⟩])
(q (q (r n [⟨s 26,m (t 3),n,[]⟩,⟨s 27,g (t 26),n,[0]⟩,⟨s 28,m (l (.int .i64 0)),n,[]⟩])
(o 0 (.loop (q (r n [⟨s 29,b .lss .int (t 28) (t 27),n,[]⟩])
(q (i (t 29) .skip (.exit 0))
(q (o 1 (q (r n [⟨s 30,x 3 (t 26) (t 28),n,[]⟩,⟨s 31,d (s 3) (t 30),n,[0]⟩,⟨s 14,.alloc [(.int .i64 0),(.int .i64 0),(.str [])],n,[]⟩,⟨n,e 3 (t 14) (t 31),n,[2,1,0,1,2]⟩])
(r n [⟨s 32,m (t 12),n,[]⟩,⟨s 33,m (t 0),n,[]⟩,⟨s 34,m (t 11),n,[]⟩,⟨s 35,m (t 1),n,[]⟩,⟨s 36,m (t 2),n,[]⟩,⟨s 37,f 0 (t 14),n,[]⟩,⟨s 38,d n (t 37),n,[5]⟩,⟨s 39,m (t 4),n,[]⟩,⟨s 40,c (l (.fn 50 [])) [(t 33),(t 34),(t 35),(t 36),(t 38),(t 39)],n,[1,2,3,4,6,7]⟩,⟨s 41,.bslc 1 [(.int .i64 0)] 1 [(0,1,(t 40))],n,[8]⟩,⟨s 42,.app 3 1 8 (t 32) (t 41),n,[0,9,8]⟩,⟨s 12,m (t 42),n,[10,10,0,1,2,3,4,5,6,7,8,9,10]⟩])))
(r n [⟨s 43,b .add .int (t 28) (l (.int .i64 1)),n,[]⟩,⟨s 28,m (t 43),n,[0]⟩])))))))
(q (r n [⟨s 44,m (t 12),n,[]⟩,⟨s 10,m (t 44),n,[0,0]⟩])
.ret))))))}
theorem c_edit_Spots : cFunc Try.prog n_edit_Spots = some f_edit_Spots := by kernel_rfl
def f_edit_Cuts : SFunc := { ntmps := 67, results := [.tmp 8], body :=
(q (r n [⟨s 8,m (l .nils),n,[]⟩])
(q (q (r n [⟨s 15,m (t 0),n,[]⟩,⟨s 16,m (t 1),n,[]⟩,⟨s 17,m (t 2),n,[]⟩,⟨s 18,c (l (.fn 22 [])) [(t 15),(t 16),(t 17)],n,[0,1,2]⟩,⟨s 19,m (t 3),n,[]⟩,⟨s 20,c (l (.fn 15 [])) [(t 18),(t 19)],n,[3,4,3]⟩,⟨s 21,b .neq .int (t 20) (l (.int .i64 0)),n,[5]⟩])
(i (t 21) (q (r n [⟨s 8,m (l .nils),n,[]⟩])
.ret) .skip))
(q (r n [⟨s 22,m (t 0),n,[]⟩,⟨s 23,m (t 1),n,[]⟩,⟨s 24,m (t 2),n,[]⟩,⟨s 25,c (l (.fn 49 [])) [(t 22),(t 23),(t 24)],n,[0,1,2]⟩,⟨s 9,m (t 25),n,[3,3,0,1,2,3]⟩])
(q (r n [⟨s 10,m (l .nils),n,[]⟩])
(q .skip
(q (q (r n [⟨s 26,m (t 0),n,[]⟩,⟨s 27,g (t 26),n,[0]⟩,⟨s 28,m (l (.int .i64 0)),n,[]⟩])
(o 0 (.loop (q (r n [⟨s 29,b .lss .int (t 28) (t 27),n,[]⟩])
(q (i (t 29) .skip (.exit 0))
(q (o 1 (q (r n [⟨s 30,m (t 28),n,[]⟩,⟨s 31,x 5 (t 26) (t 28),n,[]⟩,⟨s 32,d (s 5) (t 31),n,[1]⟩,⟨s 12,.alloc [(.str []),(.int .i64 0),(.int .i64 0),(.int .i64 0),.nils],n,[]⟩,⟨s 11,m (t 30),n,[0,0,1,2,3]⟩,⟨n,e 5 (t 12) (t 32),n,[3,2,4,0,1,2,3,4]⟩])
(q (q (r n [⟨s 33,d (s 5) (t 12),n,[]⟩,⟨s 34,m (t 1),n,[]⟩,⟨s 35,m (t 2),n,[]⟩,⟨s 36,c (l (.fn 42 [])) [(t 33),(t 34),(t 35)],n,[0,1,2]⟩,⟨s 37,.not (t 36),n,[3]⟩])
(i (t 37) (.exit 1) .skip))
(q (r n [⟨s 38,m (t 3),n,[]⟩,⟨s 39,g (t 38),n,[0]⟩,⟨s 40,m (l (.int .i64 0)),n,[]⟩])
(o 2 (.loop (q (r n [⟨s 41,b .lss .int (t 40) (t 39),n,[]⟩])
(q (i (t 41) .skip (.exit 2))
(q (o 3 (q (r n [⟨s 42,x 3 (t 38) (t 40),n,[]⟩,⟨s 43,d (s 3) (t 42),n,[0]⟩,⟨s 14,.alloc [(.int .i64 0),(.int .i64 0),(.str [])],n,[]⟩,⟨n,e 3 (t 14) (t 43),n,[2,1,0,1,2]⟩])
(q (r (s [0,0,3,7,0,16,63,127,255,255,1023,2047,255,4351,16383,32767]) [⟨s 44,m (t 9),n,[]⟩,⟨s 45,m (t 11),n,[]⟩,⟨s 46,x 1 (t 44) (t 45),n,[0,1]⟩,⟨s 47,d n (t 46),n,[2]⟩,⟨s 48,f 0 (t 14),n,[]⟩,⟨s 49,d n (t 48),n,[4]⟩,⟨s 50,b .geq .int (t 47) (t 49),n,[3,5]⟩,⟨s 51,m (t 50),n,[6]⟩,⟨s 52,m (t 9),s (51,true),[7]⟩,⟨s 53,m (t 11),s (51,true),[7]⟩,⟨s 54,x 1 (t 52) (t 53),s (51,true),[8,9,7]⟩,⟨s 55,d n (t 54),s (51,true),[10,7]⟩,⟨s 56,f 1 (t 14),s (51,true),[7]⟩,⟨s 57,d n (t 56),s (51,true),[12,7]⟩,⟨s 58,b .lss .int (t 55) (t 57),s (51,true),[11,13,7]⟩,⟨s 59,k (t 51) (t 58) (l (.bool false)),n,[7,14]⟩])
(i (t 59) (q (r n [⟨s 60,m (t 10),n,[]⟩,⟨s 61,m (t 11),n,[]⟩,⟨s 62,.bslc 1 [(.int .i64 0)] 1 [(0,1,(t 61))],n,[1]⟩,⟨s 63,.app 3 1 8 (t 60) (t 62),n,[0,2]⟩,⟨s 10,m (t 63),n,[3,3,0,1,2,3]⟩])
(.exit 1)) .skip))))
(r n [⟨s 64,b .add .int (t 40) (l (.int .i64 1)),n,[]⟩,⟨s 40,m (t 64),n,[0]⟩]))))))))))
(r n [⟨s 65,b .add .int (t 28) (l (.int .i64 1)),n,[]⟩,⟨s 28,m (t 65),n,[0]⟩])))))))
(q (r n [⟨s 66,m (t 10),n,[]⟩,⟨s 8,m (t 66),n,[0,0]⟩])
.ret)))))))}
theorem c_edit_Cuts : cFunc Try.prog n_edit_Cuts = some f_edit_Cuts := by kernel_rfl
def f_atom_Put : SFunc := { ntmps := 46, results := [.tmp 12], body :=
(q (r n [⟨s 12,m (l .nils),n,[]⟩])
(q (r n [⟨s 16,m (t 1),n,[]⟩,⟨s 17,.maxs (t 16) [(l (.int .i64 0))],n,[0]⟩,⟨s 18,m (t 0),n,[]⟩,⟨s 19,g (t 18),n,[2]⟩,⟨s 20,.mins (t 17) [(t 19)],n,[1,3]⟩,⟨s 1,m (t 20),n,[4,0,1,2,3,4]⟩])
(q (r n [⟨s 21,m (t 0),n,[]⟩,⟨s 22,m (t 1),n,[]⟩,⟨s 23,.slc 5 (t 21) n (s (t 22)) n,n,[0,1]⟩,⟨s 24,c (l (.fn 25 [])) [(t 23)],n,[2]⟩,⟨s 13,m (t 24),n,[3,3,0,1,2,3]⟩])
(q (q (r n [⟨s 25,m (t 2),n,[]⟩,⟨s 26,c (l (.fn 51 [])) [(t 25)],n,[0]⟩,⟨s 27,.iter (t 26),n,[1]⟩])
(o 0 (.loop (q (r n [⟨s 28,.next (t 27),n,[]⟩,⟨s 29,.ext (t 28) 0,n,[0]⟩])
(q (i (t 29) .skip (.exit 0))
(o 1 (q (r n [⟨s 30,.ext (t 28) 2,n,[]⟩,⟨s 15,m (t 30),n,[0,0]⟩])
(r n [⟨s 31,m (t 13),n,[]⟩,⟨s 32,m (t 15),n,[]⟩,⟨s 33,.cstr (t 32),n,[1]⟩,⟨s 34,m (t 3),n,[]⟩,⟨s 35,m (t 4),n,[]⟩,⟨s 36,m (t 5),n,[]⟩,⟨s 37,.build [(.str []),(.int .i64 0),(.int .i64 0),(.int .i64 0),.nils] [(0,1,(t 33)),(1,1,(t 34)),(2,1,(t 35)),(3,1,(t 36))],n,[2,3,4,5]⟩,⟨s 38,.bslc 5 [(.str []),(.int .i64 0),(.int .i64 0),(.int .i64 0),.nils] 1 [(0,5,(t 37))],n,[6]⟩,⟨s 39,.app 73 5 64 (t 31) (t 38),n,[0,7]⟩,⟨s 13,m (t 39),n,[8,8,0,1,2,3,4,5,6,7,8]⟩]))))))))
(q (r n [⟨s 40,m (t 13),n,[]⟩,⟨s 41,m (t 0),n,[]⟩,⟨s 42,m (t 1),n,[]⟩,⟨s 43,.slc 5 (t 41) (s (t 42)) n n,n,[1,2]⟩,⟨s 44,c (l (.fn 25 [])) [(t 43)],n,[3]⟩,⟨s 45,.app 73 5 64 (t 40) (t 44),n,[0,4,4]⟩,⟨s 12,m (t 45),n,[5,5,0,1,2,3,4,5]⟩])
.ret)))))}
theorem c_atom_Put : cFunc Try.prog n_atom_Put = some f_atom_Put := by kernel_rfl
def f_rev_Revs_Undone : SFunc := { ntmps := 22, results := [.tmp 4], body :=
(q (r n [⟨s 4,m (l .nils),n,[]⟩])
(q (q (r n [⟨s 5,m (t 0),n,[]⟩,⟨s 6,m (t 1),n,[]⟩,⟨s 7,c (l (.fn 41 [])) [(t 5),(t 6)],n,[0,1]⟩,⟨s 8,.not (t 7),n,[2]⟩])
(i (t 8) (q (r n [⟨s 4,m (l .nils),n,[]⟩])
.ret) .skip))
(q (r (s [0,1,3,7,0,0,32,96,224,496,1023,2047,4095,8191]) [⟨s 9,m (t 0),n,[]⟩,⟨s 10,z (t 9),n,[0]⟩,⟨s 11,f 0 (t 10),n,[1]⟩,⟨s 12,d n (t 11),n,[2]⟩,⟨s 13,m (t 1),n,[]⟩,⟨s 14,m (t 0),n,[]⟩,⟨s 15,z (t 14),n,[5]⟩,⟨s 16,f 1 (t 15),n,[6]⟩,⟨s 17,d n (t 16),n,[7]⟩,⟨s 18,b .sub .int (t 13) (t 17),n,[4,8]⟩,⟨s 19,x 1 (t 12) (t 18),n,[3,9]⟩,⟨s 20,d n (t 19),n,[10]⟩,⟨s 21,c (l (.fn 52 [])) [(t 20)],n,[11]⟩,⟨s 4,m (t 21),n,[12,12,0,1,2,3,4,5,6,7,8,9,10,11,12]⟩])
.ret)))}
theorem c_rev_Revs_Undone : cFunc Try.prog n_rev_Revs_Undone = some f_rev_Revs_Undone := by kernel_rfl
def f_rev_Revs_Live : SFunc := { ntmps := 17, results := [.tmp 4], body :=
(q (r n [⟨s 4,m (l (.bool false)),n,[]⟩])
(q (r n [⟨s 5,m (t 1),n,[]⟩,⟨s 6,m (t 0),n,[]⟩,⟨s 7,z (t 6),n,[1]⟩,⟨s 8,f 1 (t 7),n,[2]⟩,⟨s 9,d n (t 8),n,[3]⟩,⟨s 10,b .geq .int (t 5) (t 9),n,[0,4]⟩,⟨s 11,m (t 10),n,[5]⟩,⟨s 12,m (t 1),s (11,true),[6]⟩,⟨s 13,m (t 0),s (11,true),[6]⟩,⟨s 14,c (l (.fn 23 [])) [(t 13)],s (11,true),[8,6,6]⟩,⟨s 15,b .leq .int (t 12) (t 14),s (11,true),[7,9,6]⟩,⟨s 16,k (t 11) (t 15) (l (.bool false)),n,[6,10]⟩,⟨s 4,m (t 16),n,[11,9,0,1,2,3,4,5,6,7,8,9,10,11]⟩])
.ret))}
theorem c_rev_Revs_Live : cFunc Try.prog n_rev_Revs_Live = some f_rev_Revs_Live := by kernel_rfl
def f_atom_Visible : SFunc := { ntmps := 23, results := [.tmp 6], body :=
(q (r n [⟨s 3,.box (t 0),n,[]⟩,⟨s 4,.box (t 1),n,[]⟩,⟨s 5,.box (t 2),n,[]⟩,⟨s 6,m (l (.bool false)),n,[]⟩])
(q (q (r n [⟨s 7,f 1 (t 3),n,[]⟩,⟨s 8,d n (t 7),n,[0]⟩,⟨s 9,d n (t 4),n,[]⟩,⟨s 10,b .gtr .int (t 8) (t 9),n,[1,2]⟩,⟨s 11,m (t 10),n,[3]⟩,⟨s 12,f 2 (t 3),s (11,false),[4]⟩,⟨s 13,d n (t 12),s (11,false),[5,4]⟩,⟨s 14,d n (t 5),s (11,false),[4]⟩,⟨s 15,c (l (.fn 53 [])) [(t 13),(t 14)],s (11,false),[6,7,4,4]⟩,⟨s 16,.not (t 15),s (11,false),[8,4]⟩,⟨s 17,k (t 11) (l (.bool true)) (t 16),n,[4,9]⟩])
(i (t 17) (q (r n [⟨s 6,m (l (.bool false)),n,[]⟩])
.ret) .skip))
(q (r n [⟨s 18,f 4 (t 3),n,[]⟩,⟨s 19,d n (t 18),n,[0]⟩,⟨s 20,.mkfn 55 [(t 4),(t 5)],n,[]⟩,⟨s 21,c (l (.fn 54 [])) [(t 19),(t 20)],n,[1,2]⟩,⟨s 22,.not (t 21),n,[3]⟩,⟨s 6,m (t 22),n,[4,3,0,1,2,3,4]⟩])
.ret)))}
theorem c_atom_Visible : cFunc Try.prog n_atom_Visible = some f_atom_Visible := by kernel_rfl
def f_strings_Builder_WriteString : SFunc := { ntmps := 19, results := [.tmp 4, .tmp 5], body :=
(q (r n [⟨s 4,m (l (.int .i64 0)),n,[]⟩,⟨s 5,m (l (.raw .nilIface)),n,[0]⟩])
(q (r n [⟨s 6,m (t 0),n,[]⟩,⟨s 7,c (l (.fn 56 [])) [(t 6)],n,[0]⟩])
(q (r n [⟨s 8,m (t 0),n,[]⟩,⟨s 9,m (t 0),n,[]⟩,⟨s 10,z (t 9),n,[1]⟩,⟨s 11,f 1 (t 10),n,[2]⟩,⟨s 12,d n (t 11),n,[3]⟩,⟨s 13,m (t 1),n,[]⟩,⟨s 14,.app 5 1 1 (t 12) (t 13),n,[4,5]⟩,⟨s 15,z (t 8),n,[0,0,1,2,3,4,5,6]⟩,⟨s 16,f 1 (t 15),n,[7,0,1,2,3,4,5,6]⟩,⟨n,e 1 (t 16) (t 14),n,[8,6,6,0,1,2,3,4,5,6]⟩])
(q (r n [⟨s 17,m (t 1),n,[]⟩,⟨s 18,.lenS (t 17),n,[0]⟩,⟨s 4,m (t 18),n,[1,0,1]⟩,⟨s 5,m (l (.raw .nilIface)),n,[2,0,1,2]⟩])
.ret))))}
theorem c_strings_Builder_WriteString : cFunc Try.prog n_strings_Builder_WriteString = some f_strings_Builder_WriteString := by kernel_rfl
def f_rev_Revs_has : SFunc := { ntmps := 17, results := [.tmp 4], body :=
(q (r n [⟨s 4,m (l (.bool false)),n,[]⟩])
(q (r n [⟨s 8,m (t 0),n,[]⟩,⟨s 9,z (t 8),n,[0]⟩,⟨s 10,f 2 (t 9),n,[1]⟩,⟨s 11,d n (t 10),n,[2]⟩,⟨s 12,m (t 1),n,[]⟩,⟨s 13,.look (.agg []) true (t 11) (t 12),n,[3,4]⟩,⟨s 7,m (t 13),n,[5]⟩,⟨s 14,.ext (t 7) 0,n,[6]⟩,⟨s 15,.ext (t 7) 1,n,[6]⟩,⟨s 5,.alloc [],n,[]⟩,⟨n,e 0 (t 5) (t 14),n,[9,7,0,1,2,3,4,5,6,7,9]⟩,⟨s 6,m (t 15),n,[8,10,0,1,2,3,4,5,6,7,8,9,10]⟩])
(q (r n [⟨s 16,m (t 6),n,[]⟩,⟨s 4,m (t 16),n,[0,0]⟩])
.ret)))}
theorem c_rev_Revs_has : cFunc Try.prog n_rev_Revs_has = some f_rev_Revs_has := by kernel_rfl
def f_slices_Clone_api_Cut_api_Cut : SFunc := { ntmps := 8, results := [.tmp 2], body :=
(q (r n [⟨s 2,m (l .nils),n,[]⟩])
(q (q (r n [⟨s 3,m (t 0),n,[]⟩,⟨s 4,b .eql .slc (t 3) (l .nils),n,[0]⟩])
(i (t 4) (q (r n [⟨s 2,m (l .nils),n,[]⟩])
.ret) .skip))
(q (r n [⟨s 5,.bslc 2 [(.int .i64 0),(.int .i64 0)] 0 [],n,[]⟩,⟨s 6,m (t 0),n,[]⟩,⟨s 7,.app 75 2 16 (t 5) (t 6),n,[0,1]⟩,⟨s 2,m (t 7),n,[2,2,0,1,2]⟩])
.ret)))}
theorem c_slices_Clone_api_Cut_api_Cut : cFunc Try.prog n_slices_Clone_api_Cut_api_Cut = some f_slices_Clone_api_Cut_api_Cut := by kernel_rfl
def f_utf_Size : SFunc := { ntmps := 14, results := [.tmp 4], body :=
(q (r n [⟨s 4,m (l (.int .i64 0)),n,[]⟩])
(q (r n [⟨s 8,m (t 0),n,[]⟩,⟨s 9,m (t 1),n,[]⟩,⟨s 10,c (l (.fn 57 [])) [(t 8),(t 9)],n,[0,1]⟩,⟨s 7,m (t 10),n,[2]⟩,⟨s 11,.ext (t 7) 0,n,[3]⟩,⟨s 12,.ext (t 7) 1,n,[3]⟩,⟨s 5,m (t 11),n,[4,2,0,1,2,3,4]⟩,⟨s 6,m (t 12),n,[5,6,0,1,2,3,4,5,6]⟩])
(q (r n [⟨s 13,m (t 6),n,[]⟩,⟨s 4,m (t 13),n,[0,0]⟩])
.ret)))}
theorem c_utf_Size : cFunc Try.prog n_utf_Size = some f_utf_Size := by kernel_rfl
def f_atom_Places : SFunc := { ntmps := 39, results := [.tmp 6], body :=
(q (r n [⟨s 6,m (l .nils),n,[]⟩])
(q (r n [⟨s 11,m (t 0),n,[]⟩,⟨s 12,g (t 11),n,[0]⟩,⟨s 13,b .add .int (t 12) (l (.int .i64 1)),n,[1]⟩,⟨s 14,.mslc 1 8 [(.int .i64 0)] (l (.int .i64 0)) (t 13),n,[2]⟩,⟨s 7,m (t 14),n,[3,0,1,2,3]⟩])
(q (r n [⟨s 8,m (l (.int .i64 0)),n,[]⟩])
(q (q (r n [⟨s 15,m (t 0),n,[]⟩,⟨s 16,g (t 15),n,[0]⟩,⟨s 17,m (l (.int .i64 0)),n,[]⟩])
(o 0 (.loop (q (r n [⟨s 18,b .lss .int (t 17) (t 16),n,[]⟩])
(q (i (t 18) .skip (.exit 0))
(q (o 1 (q (r n [⟨s 19,x 5 (t 15) (t 17),n,[]⟩,⟨s 20,d (s 5) (t 19),n,[0]⟩,⟨s 10,.alloc [(.str []),(.int .i64 0),(.int .i64 0),(.int .i64 0),.nils],n,[]⟩,⟨n,e 5 (t 10) (t 20),n,[2,1,0,1,2]⟩])
(q (r n [⟨s 21,m (t 7),n,[]⟩,⟨s 22,m (t 8),n,[]⟩,⟨s 23,.bslc 1 [(.int .i64 0)] 1 [(0,1,(t 22))],n,[1]⟩,⟨s 24,.app 3 1 8 (t 21) (t 23),n,[0,2]⟩,⟨s 7,m (t 24),n,[3,3,0,1,2,3]⟩])
(q (r n [⟨s 25,d (s 5) (t 10),n,[]⟩,⟨s 26,m (t 1),n,[]⟩,⟨s 27,m (t 2),n,[]⟩,⟨s 28,c (l (.fn 42 [])) [(t 25),(t 26),(t 27)],n,[0,1,2]⟩])
(i (t 28) (r n [⟨s 29,m (t 8),n,[]⟩,⟨s 30,f 0 (t 10),n,[]⟩,⟨s 31,d n (t 30),n,[1]⟩,⟨s 32,.lenS (t 31),n,[2]⟩,⟨s 33,b .add .int (t 29) (t 32),n,[0,3]⟩,⟨s 8,m (t 33),n,[4,0,1,2,3,4]⟩]) .skip)))))
(r n [⟨s 34,b .add .int (t 17) (l (.int .i64 1)),n,[]⟩,⟨s 17,m (t 34),n,[0]⟩])))))))
(q (r n [⟨s 35,m (t 7),n,[]⟩,⟨s 36,m (t 8),n,[]⟩,⟨s 37,.bslc 1 [(.int .i64 0)] 1 [(0,1,(t 36))],n,[1]⟩,⟨s 38,.app 3 1 8 (t 35) (t 37),n,[0,2]⟩,⟨s 6,m (t 38),n,[3,3,0,1,2,3]⟩])
.ret)))))}
theorem c_atom_Places : cFunc Try.prog n_atom_Places = some f_atom_Places := by kernel_rfl
def f_edit_spot : SFunc := { ntmps := 63, results := [.tmp 12], body :=
(q (r n [⟨s 12,m (l (.int .i64 0)),n,[]⟩])
(q (r n [⟨s 13,m (l (.int .i64 0)),n,[]⟩])
(q (q (r n [⟨s 16,m (t 0),n,[]⟩,⟨s 17,g (t 16),n,[0]⟩,⟨s 18,m (l (.int .i64 0)),n,[]⟩])
(o 0 (.loop (q (r n [⟨s 19,b .lss .int (t 18) (t 17),n,[]⟩])
(q (i (t 19) .skip (.exit 0))
(q (o 1 (q (r n [⟨s 20,m (t 18),n,[]⟩,⟨s 21,x 5 (t 16) (t 18),n,[]⟩,⟨s 22,d (s 5) (t 21),n,[1]⟩,⟨s 15,.alloc [(.str []),(.int .i64 0),(.int .i64 0),(.int .i64 0),.nils],n,[]⟩,⟨s 14,m (t 20),n,[0,0,1,2,3]⟩,⟨n,e 5 (t 15) (t 22),n,[3,2,4,0,1,2,3,4]⟩])
(q (r n [⟨s 23,m (t 1),n,[]⟩,⟨s 24,m (t 14),n,[]⟩,⟨s 25,x 1 (t 23) (t 24),n,[0,1]⟩,⟨s 26,d n (t 25),n,[2]⟩,⟨s 27,m (t 4),n,[]⟩,⟨s 28,b .lss .int (t 26) (t 27),n,[3,4]⟩,⟨s 29,m (t 28),n,[5]⟩,⟨s 30,d (s 5) (t 15),s (29,true),[6]⟩,⟨s 31,m (t 2),s (29,true),[6]⟩,⟨s 32,m (t 3),s (29,true),[6]⟩,⟨s 33,c (l (.fn 42 [])) [(t 30),(t 31),(t 32)],s (29,true),[7,8,9,6,6]⟩,⟨s 34,k (t 29) (t 33) (l (.bool false)),n,[6,10]⟩])
(i (t 34) (r n [⟨s 35,m (t 14),n,[]⟩,⟨s 36,b .add .int (t 35) (l (.int .i64 1)),n,[0]⟩,⟨s 13,m (t 36),n,[1,0,1]⟩]) .skip))))
(r n [⟨s 37,b .add .int (t 18) (l (.int .i64 1)),n,[]⟩,⟨s 18,m (t 37),n,[0]⟩])))))))
(q (o 2 (.loop (q (q (r n [⟨s 38,m (t 13),n,[]⟩,⟨s 39,m (t 0),n,[]⟩,⟨s 40,g (t 39),n,[1]⟩,⟨s 41,b .lss .int (t 38) (t 40),n,[0,2]⟩,⟨s 42,m (t 41),n,[3]⟩,⟨s 43,m (t 0),s (42,true),[4]⟩,⟨s 44,m (t 13),s (42,true),[4]⟩,⟨s 45,x 5 (t 43) (t 44),s (42,true),[5,6,4]⟩,⟨s 46,f 1 (t 45),s (42,true),[7,4]⟩,⟨s 47,d n (t 46),s (42,true),[8,4]⟩,⟨s 48,m (t 2),s (42,true),[4]⟩,⟨s 49,b .gtr .int (t 47) (t 48),s (42,true),[9,10,4]⟩,⟨s 50,k (t 42) (t 49) (l (.bool false)),n,[4,11]⟩,⟨s 51,m (t 50),n,[12,4]⟩,⟨s 52,m (t 0),s (51,true),[13]⟩,⟨s 53,m (t 13),s (51,true),[13]⟩,⟨s 54,x 5 (t 52) (t 53),s (51,true),[14,15,13]⟩,⟨s 55,f 3 (t 54),s (51,true),[16,13]⟩,⟨s 56,d n (t 55),s (51,true),[17,13]⟩,⟨s 57,m (t 5),s (51,true),[13]⟩,⟨s 58,b .leq .int (t 56) (t 57),s (51,true),[18,19,13]⟩,⟨s 59,k (t 51) (t 58) (l (.bool false)),n,[13,20]⟩])
(i (t 59) .skip (.exit 2)))
(o 3 (r n [⟨s 60,m (t 13),n,[]⟩,⟨s 61,b .add .int (t 60) (l (.int .i64 1)),n,[0]⟩,⟨s 13,m (t 61),n,[1,0,1]⟩])))))
(q (r n [⟨s 62,m (t 13),n,[]⟩,⟨s 12,m (t 62),n,[0,0]⟩])
.ret)))))}
theorem c_edit_spot : cFunc Try.prog n_edit_spot = some f_edit_spot := by kernel_rfl
def f_utf_Clean : SFunc := { ntmps := 9, results := [.tmp 2], body :=
(q (r n [⟨s 2,m (l (.str [])),n,[]⟩])
(q (q (r n [⟨s 3,m (t 0),n,[]⟩,⟨s 4,c (l (.fn 26 [])) [(t 3)],n,[0]⟩])
(i (t 4) (q (r n [⟨s 5,m (t 0),n,[]⟩,⟨s 2,m (t 5),n,[0,0]⟩])
.ret) .skip))
(q (r n [⟨s 6,m (t 0),n,[]⟩,⟨s 7,c (l (.fn 60 [])) [(t 6)],n,[0]⟩,⟨s 8,c (l (.fn 59 [])) [(t 7)],n,[1,1]⟩,⟨s 2,m (t 8),n,[2,2,0,1,2]⟩])
.ret)))}
theorem c_utf_Clean : cFunc Try.prog n_utf_Clean = some f_utf_Clean := by kernel_rfl
def f_rev_set_sorted : SFunc := { ntmps := 13, results := [.tmp 2], body :=
(q (r n [⟨s 2,m (l .nils),n,[]⟩])
(q (r n [⟨s 4,m (t 0),n,[]⟩,⟨s 5,.lenM (t 4),n,[0]⟩,⟨s 6,.mslc 1 8 [(.int .i64 0)] (t 5) (t 5),n,[1,1]⟩,⟨s 3,m (t 6),n,[2,1,0,1,2]⟩])
(q (r n [⟨s 7,m (t 3),n,[]⟩,⟨s 8,m (t 0),n,[]⟩,⟨s 9,c (l (.fn 62 [])) [(t 8)],n,[1]⟩,⟨s 10,c (l (.fn 61 [])) [(t 9)],n,[2,2]⟩,⟨s 11,.copy 1 (t 7) (t 10),n,[0,3,3]⟩])
(q (r n [⟨s 12,m (t 3),n,[]⟩,⟨s 2,m (t 12),n,[0,0]⟩])
.ret))))}
theorem c_rev_set_sorted : cFunc Try.prog n_rev_set_sorted = some f_rev_set_sorted := by kernel_rfl
def f_atom_holds : SFunc := { ntmps := 13, results := [.tmp 4], body :=
(q (r n [⟨s 4,m (l (.bool false)),n,[]⟩])
(q (r n [⟨s 5,m (t 0),n,[]⟩,⟨s 6,b .eql .int (t 5) (l (.int .i64 (-1))),n,[0]⟩,⟨s 7,m (t 6),n,[1]⟩,⟨s 8,m (t 1),s (7,false),[2]⟩,⟨s 9,m (t 0),s (7,false),[2]⟩,⟨s 10,c (l (.fn 63 [])) [(t 8),(t 9)],s (7,false),[3,4,2,2]⟩,⟨s 11,.not (t 10),s (7,false),[5,2]⟩,⟨s 12,k (t 7) (l (.bool true)) (t 11),n,[2,6]⟩,⟨s 4,m (t 12),n,[7,5,0,1,2,3,4,5,6,7]⟩])
.ret))}
theorem c_atom_holds : cFunc Try.prog n_atom_holds = some f_atom_holds := by kernel_rfl
def f_slices_ContainsFunc_api_Cut_api_Cut : SFunc := { ntmps := 9, results := [.tmp 4], body :=
(q (r n [⟨s 4,m (l (.bool false)),n,[]⟩])
(q (r n [⟨s 5,m (t 0),n,[]⟩,⟨s 6,m (t 1),n,[]⟩,⟨s 7,c (l (.fn 64 [])) [(t 5),(t 6)],n,[0,1]⟩,⟨s 8,b .geq .int (t 7) (l (.int .i64 0)),n,[2]⟩,⟨s 4,m (t 8),n,[3,2,0,1,2,3]⟩])
.ret))}
theorem c_slices_ContainsFunc_api_Cut_api_Cut : cFunc Try.prog n_slices_ContainsFunc_api_Cut_api_Cut = some f_slices_ContainsFunc_api_Cut_api_Cut := by kernel_rfl
def f_atom_Visible_1 : SFunc := { ntmps := 15, results := [.tmp 4], body :=
(q (r n [⟨s 3,.box (t 0),n,[]⟩,⟨s 4,m (l (.bool false)),n,[]⟩])
(q (r n [⟨s 5,f 0 (t 3),n,[]⟩,⟨s 6,d n (t 5),n,[0]⟩,⟨s 7,d n (t 1),n,[]⟩,⟨s 8,b .leq .int (t 6) (t 7),n,[1,2]⟩,⟨s 9,m (t 8),n,[3]⟩,⟨s 10,f 1 (t 3),s (9,true),[4]⟩,⟨s 11,d n (t 10),s (9,true),[5,4]⟩,⟨s 12,d n (t 2),s (9,true),[4]⟩,⟨s 13,c (l (.fn 53 [])) [(t 11),(t 12)],s (9,true),[6,7,4,4]⟩,⟨s 14,k (t 9) (t 13) (l (.bool false)),n,[4,8]⟩,⟨s 4,m (t 14),n,[9,8,0,1,2,3,4,5,6,7,8,9]⟩])
.ret))}
theorem c_atom_Visible_1 : cFunc Try.prog n_atom_Visible_1 = some f_atom_Visible_1 := by kernel_rfl
def f_utf_point : SFunc := { ntmps := 39, results := [.tmp 4, .tmp 5], body :=
(q (r n [⟨s 4,m (l (.int .i32 0)),n,[]⟩,⟨s 5,m (l (.int .i64 0)),n,[0]⟩])
(q (q (r n [⟨s 8,m (t 1),n,[]⟩,⟨s 9,b .lss .int (t 8) (l (.int .i64 0)),n,[0]⟩,⟨s 10,m (t 9),n,[1]⟩,⟨s 11,m (t 1),s (10,false),[2]⟩,⟨s 12,m (t 0),s (10,false),[2]⟩,⟨s 13,.lenS (t 12),s (10,false),[4,2]⟩,⟨s 14,b .geq .int (t 11) (t 13),s (10,false),[3,5,2]⟩,⟨s 15,k (t 10) (l (.bool true)) (t 14),n,[2,6]⟩])
(i (t 15) (q (r n [⟨s 4,m (l (.int .i32 0)),n,[]⟩,⟨s 5,m (l (.int .i64 0)),n,[0,0]⟩])
.ret) .skip))
(q (q (r n [⟨s 16,c (l (.fn 66 [])) [],n,[]⟩,⟨s 17,m (l (.int .i64 0)),n,[]⟩])
(o 0 (.loop (q (r n [⟨s 18,b .lss .int (t 17) (l (.int .i64 4)),n,[]⟩])
(q (i (t 18) .skip (.exit 0))
(q (o 1 (q (r n [⟨s 19,m (t 17),n,[]⟩,⟨s 20,.idxG 4 3 true (t 16) (t 17),n,[]⟩,⟨s 7,.alloc [(.int .u8 0),(.int .u8 0),(.int .i32 0)],n,[]⟩,⟨s 6,m (t 19),n,[0,0,1,2]⟩,⟨n,e 3 (t 7) (t 20),n,[2,1,3,0,1,2,3]⟩])
(q (r (s [0,0,3,0,8,31,0,64,255]) [⟨s 21,m (t 0),n,[]⟩,⟨s 22,m (t 1),n,[]⟩,⟨s 23,.idxS (t 21) (t 22),n,[0,1]⟩,⟨s 24,f 0 (t 7),n,[]⟩,⟨s 25,d n (t 24),n,[3]⟩,⟨s 26,b .and .int (t 23) (t 25),n,[2,4]⟩,⟨s 27,f 1 (t 7),n,[]⟩,⟨s 28,d n (t 27),n,[6]⟩,⟨s 29,b .eql .int (t 26) (t 28),n,[5,7]⟩])
(i (t 29) (q (r n [⟨s 30,m (t 0),n,[]⟩,⟨s 31,m (t 1),n,[]⟩,⟨s 32,m (t 6),n,[]⟩,⟨s 33,b .add .int (t 32) (l (.int .i64 1)),n,[2]⟩,⟨s 34,d (s 3) (t 7),n,[]⟩,⟨s 35,c (l (.fn 67 [])) [(t 30),(t 31),(t 33),(t 34)],n,[0,1,3,4]⟩,⟨s 36,.ext (t 35) 0,n,[5]⟩,⟨s 37,.ext (t 35) 1,n,[5]⟩,⟨s 4,m (t 36),n,[6,5,0,1,2,3,4,5,6,7]⟩,⟨s 5,m (t 37),n,[7,8,0,1,2,3,4,5,6,7,8]⟩])
.ret) .skip))))
(r n [⟨s 38,b .add .int (t 17) (l (.int .i64 1)),n,[]⟩,⟨s 17,m (t 38),n,[0]⟩])))))))
(q (r n [⟨s 4,m (l (.int .i32 0)),n,[]⟩,⟨s 5,m (l (.int .i64 0)),n,[0,0]⟩])
.ret))))}
theorem c_utf_point : cFunc Try.prog n_utf_point = some f_utf_point := by kernel_rfl
def f_maps_Keys_rev_set_int_unit : SFunc := { ntmps := 4, results := [.tmp 2], body :=
(q (r n [⟨s 1,.box (t 0),n,[]⟩,⟨s 2,m (l .nilf),n,[]⟩])
(q (r n [⟨s 3,.mkfn 72 [(t 1)],n,[]⟩,⟨s 2,m (t 3),n,[0,0]⟩])
.ret))}
theorem c_maps_Keys_rev_set_int_unit : cFunc Try.prog n_maps_Keys_rev_set_int_unit = some f_maps_Keys_rev_set_int_unit := by kernel_rfl
def f_slices_Contains_int_int : SFunc := { ntmps := 9, results := [.tmp 4], body :=
(q (r n [⟨s 4,m (l (.bool false)),n,[]⟩])
(q (r n [⟨s 5,m (t 0),n,[]⟩,⟨s 6,m (t 1),n,[]⟩,⟨s 7,c (l (.fn 73 [])) [(t 5),(t 6)],n,[0,1]⟩,⟨s 8,b .geq .int (t 7) (l (.int .i64 0)),n,[2]⟩,⟨s 4,m (t 8),n,[3,2,0,1,2,3]⟩])
.ret))}
theorem c_slices_Contains_int_int : cFunc Try.prog n_slices_Contains_int_int = some f_slices_Contains_int_int := by kernel_rfl
def f_slices_IndexFunc_api_Cut_api_Cut : SFunc := { ntmps := 19, results := [.tmp 4], body :=
(q (r n [⟨s 4,m (l (.int .i64 0)),n,[]⟩])
(q (q (r n [⟨s 6,m (t 0),n,[]⟩,⟨s 7,g (t 6),n,[0]⟩,⟨s 8,m (l (.int .i64 0)),n,[]⟩])
(o 0 (.loop (q (r n [⟨s 9,b .lss .int (t 8) (t 7),n,[]⟩])
(q (i (t 9) .skip (.exit 0))
(q (o 1 (q (r n [⟨s 10,m (t 8),n,[]⟩,⟨s 5,m (t 10),n,[0,0]⟩])
(q (r n [⟨s 11,m (t 1),n,[]⟩,⟨s 12,m (t 0),n,[]⟩,⟨s 13,m (t 5),n,[]⟩,⟨s 14,x 2 (t 12) (t 13),n,[1,2]⟩,⟨s 15,d (s 2) (t 14),n,[3]⟩,⟨s 16,c (t 11) [(t 15)],n,[0,4]⟩])
(i (t 16) (q (r n [⟨s 17,m (t 5),n,[]⟩,⟨s 4,m (t 17),n,[0,0]⟩])
.ret) .skip))))
(r n [⟨s 18,b .add .int (t 8) (l (.int .i64 1)),n,[]⟩,⟨s 8,m (t 18),n,[0]⟩])))))))
(q (r n [⟨s 4,m (l (.int .i64 (-1))),n,[]⟩])
.ret)))}
theorem c_slices_IndexFunc_api_Cut_api_Cut : cFunc Try.prog n_slices_IndexFunc_api_Cut_api_Cut = some f_slices_IndexFunc_api_Cut_api_Cut := by kernel_rfl
def f_utf_forms : SFunc := { ntmps := 6, results := [.cell 0 (some 12)], body :=
(q (r n [⟨s 0,.alloc [(.int .u8 0),(.int .u8 0),(.int .i32 0),(.int .u8 0),(.int .u8 0),(.int .i32 0),(.int .u8 0),(.int .u8 0),(.int .i32 0),(.int .u8 0),(.int .u8 0),(.int .i32 0)],n,[]⟩])
(q (r n [⟨s 1,.build [(.int .u8 0),(.int .u8 0),(.int .i32 0)] [(0,1,(l (.int .u8 128))),(1,1,(l (.int .u8 0))),(2,1,(l (.int .i32 0)))],n,[]⟩,⟨s 2,.build [(.int .u8 0),(.int .u8 0),(.int .i32 0)] [(0,1,(l (.int .u8 224))),(1,1,(l (.int .u8 192))),(2,1,(l (.int .i32 128)))],n,[]⟩,⟨s 3,.build [(.int .u8 0),(.int .u8 0),(.int .i32 0)] [(0,1,(l (.int .u8 240))),(1,1,(l (.int .u8 224))),(2,1,(l (.int .i32 2048)))],n,[]⟩,⟨s 4,.build [(.int .u8 0),(.int .u8 0),(.int .i32 0)] [(0,1,(l (.int .u8 248))),(1,1,(l (.int .u8 240))),(2,1,(l (.int .i32 65536)))],n,[]⟩,⟨s 5,.build [(.int .u8 0),(.int .u8 0),(.int .i32 0),(.int .u8 0),(.int .u8 0),(.int .i32 0),(.int .u8 0),(.int .u8 0),(.int .i32 0),(.int .u8 0),(.int .u8 0),(.int .i32 0)] [(0,3,(t 1)),(3,3,(t 2)),(6,3,(t 3)),(9,3,(t 4))],n,[0,1,2,3]⟩,⟨n,e 12 (t 0) (t 5),n,[4,0,1,2,3,4]⟩])
.ret))}
theorem c_utf_forms : cFunc Try.prog n_utf_forms = some f_utf_forms := by kernel_rfl
def f_utf_long : SFunc := { ntmps := 56, results := [.tmp 8, .tmp 9], body :=
(q (r n [⟨s 7,.box (t 3),n,[]⟩,⟨s 8,m (l (.int .i32 0)),n,[]⟩,⟨s 9,m (l (.int .i64 0)),n,[1]⟩])
(q (q (r n [⟨s 13,m (t 0),n,[]⟩,⟨s 14,.lenS (t 13),n,[0]⟩,⟨s 15,m (t 1),n,[]⟩,⟨s 16,b .sub .int (t 14) (t 15),n,[1,2]⟩,⟨s 17,m (t 2),n,[]⟩,⟨s 18,b .lss .int (t 16) (t 17),n,[3,4]⟩])
(i (t 18) (q (r n [⟨s 8,m (l (.int .i32 0)),n,[]⟩,⟨s 9,m (l (.int .i64 0)),n,[0,0]⟩])
.ret) .skip))
(q (r (s [0,0,3,0,8,31,63,127]) [⟨s 19,m (t 0),n,[]⟩,⟨s 20,m (t 1),n,[]⟩,⟨s 21,.idxS (t 19) (t 20),n,[0,1]⟩,⟨s 22,f 0 (t 7),n,[]⟩,⟨s 23,d n (t 22),n,[3]⟩,⟨s 24,b .andNot .int (t 21) (t 23),n,[2,4]⟩,⟨s 25,.cint .i32 (t 24),n,[5]⟩,⟨s 10,m (t 25),n,[6,0,1,2,3,4,5,6]⟩])
(q (q (r n [⟨s 11,m (l (.int .i64 1)),n,[]⟩])
(o 0 (.loop (q (q (r n [⟨s 26,m (t 11),n,[]⟩,⟨s 27,m (t 2),n,[]⟩,⟨s 28,b .lss .int (t 26) (t 27),n,[0,1]⟩])
(i (t 28) .skip (.exit 0)))
(q (o 1 (q (r n [⟨s 31,m (t 0),n,[]⟩,⟨s 32,m (t 1),n,[]⟩,⟨s 33,m (t 11),n,[]⟩,⟨s 34,b .add .int (t 32) (t 33),n,[1,2]⟩,⟨s 35,.idxS (t 31) (t 34),n,[0,3]⟩,⟨s 12,m (t 35),n,[4,0,1,2,3,4]⟩])
(q (q (r n [⟨s 36,m (t 12),n,[]⟩,⟨s 37,b .and .int (t 36) (l (.int .u8 192)),n,[0]⟩,⟨s 38,b .neq .int (t 37) (l (.int .u8 128)),n,[1]⟩])
(i (t 38) (q (r n [⟨s 8,m (l (.int .i32 0)),n,[]⟩,⟨s 9,m (l (.int .i64 0)),n,[0,0]⟩])
.ret) .skip))
(r n [⟨s 39,m (t 10),n,[]⟩,⟨s 40,b .shl .int (t 39) (l (.int .u64 6)),n,[0]⟩,⟨s 41,m (t 12),n,[]⟩,⟨s 42,b .andNot .int (t 41) (l (.int .u8 192)),n,[2]⟩,⟨s 43,.cint .i32 (t 42),n,[3]⟩,⟨s 44,b .or .int (t 40) (t 43),n,[1,4]⟩,⟨s 10,m (t 44),n,[5,0,1,2,3,4,5]⟩]))))
(r n [⟨s 29,m (t 11),n,[]⟩,⟨s 30,b .add .int (t 29) (l (.int .i64 1)),n,[0]⟩,⟨s 11,m (t 30),n,[1,0,1]⟩]))))))
(q (q (r n [⟨s 45,m (t 10),n,[]⟩,⟨s 46,f 2 (t 7),n,[]⟩,⟨s 47,d n (t 46),n,[1]⟩,⟨s 48,b .lss .int (t 45) (t 47),n,[0,2]⟩,⟨s 49,m (t 48),n,[3]⟩,⟨s 50,m (t 10),s (49,false),[4]⟩,⟨s 51,c (l (.fn 68 [])) [(t 50)],s (49,false),[5,4,4]⟩,⟨s 52,.not (t 51),s (49,false),[6,4]⟩,⟨s 53,k (t 49) (l (.bool true)) (t 52),n,[4,7]⟩])
(i (t 53) (q (r n [⟨s 8,m (l (.int .i32 0)),n,[]⟩,⟨s 9,m (l (.int .i64 0)),n,[0,0]⟩])
.ret) .skip))
(q (r n [⟨s 54,m (t 10),n,[]⟩,⟨s 55,m (t 2),n,[]⟩,⟨s 8,m (t 54),n,[0,0]⟩,⟨s 9,m (t 55),n,[1,2,0,1,2]⟩])
.ret))))))}
theorem c_utf_long : cFunc Try.prog n_utf_long = some f_utf_long := by kernel_rfl
def f_utf_isPoint : SFunc := { ntmps := 17, results := [.tmp 2], body :=
(q (r n [⟨s 2,m (l (.bool false)),n,[]⟩])
(q (r n [⟨s 3,m (t 0),n,[]⟩,⟨s 4,b .geq .int (t 3) (l (.int .i32 0)),n,[0]⟩,⟨s 5,m (t 4),n,[1]⟩,⟨s 6,m (t 0),s (5,true),[2]⟩,⟨s 7,b .leq .int (t 6) (l (.int .i32 1114111)),s (5,true),[3,2]⟩,⟨s 8,k (t 5) (t 7) (l (.bool false)),n,[2,4]⟩,⟨s 9,m (t 8),n,[5,2]⟩,⟨s 10,m (t 0),s (9,true),[6]⟩,⟨s 11,b .lss .int (t 10) (l (.int .i32 55296)),s (9,true),[7,6]⟩,⟨s 12,m (t 11),s (9,true),[8,6,6]⟩,⟨s 13,m (t 0),s (12,false),[9]⟩,⟨s 14,b .gtr .int (t 13) (l (.int .i32 57343)),s (12,false),[10,9]⟩,⟨s 15,k (t 12) (l (.bool true)) (t 14),s (9,true),[9,11,6]⟩,⟨s 16,k (t 9) (t 15) (l (.bool false)),n,[6,12]⟩,⟨s 2,m (t 16),n,[13,9,0,1,2,3,4,5,6,7,8,9,10,11,12,13]⟩])
.ret))}
theorem c_utf_isPoint : cFunc Try.prog n_utf_isPoint = some f_utf_isPoint := by kernel_rfl
def f_slices_Index_int_int : SFunc := { ntmps := 19, results := [.tmp 4], body :=
(q (r n [⟨s 4,m (l (.int .i64 0)),n,[]⟩])
(q (q (r n [⟨s 6,m (t 0),n,[]⟩,⟨s 7,g (t 6),n,[0]⟩,⟨s 8,m (l (.int .i64 0)),n,[]⟩])
(o 0 (.loop (q (r n [⟨s 9,b .lss .int (t 8) (t 7),n,[]⟩])
(q (i (t 9) .skip (.exit 0))
(q (o 1 (q (r n [⟨s 10,m (t 8),n,[]⟩,⟨s 5,m (t 10),n,[0,0]⟩])
(q (r n [⟨s 11,m (t 1),n,[]⟩,⟨s 12,m (t 0),n,[]⟩,⟨s 13,m (t 5),n,[]⟩,⟨s 14,x 1 (t 12) (t 13),n,[1,2]⟩,⟨s 15,d n (t 14),n,[3]⟩,⟨s 16,b .eql .int (t 11) (t 15),n,[0,4]⟩])
(i (t 16) (q (r n [⟨s 17,m (t 5),n,[]⟩,⟨s 4,m (t 17),n,[0,0]⟩])
.ret) .skip))))
(r n [⟨s 18,b .add .int (t 8) (l (.int .i64 1)),n,[]⟩,⟨s 8,m (t 18),n,[0]⟩])))))))
(q (r n [⟨s 4,m (l (.int .i64 (-1))),n,[]⟩])
.ret)))}
theorem c_slices_Index_int_int : cFunc Try.prog n_slices_Index_int_int = some f_slices_Index_int_int := by kernel_rfl
end
end Go.Proofs.Ytfkiebglpagnaaa.M
