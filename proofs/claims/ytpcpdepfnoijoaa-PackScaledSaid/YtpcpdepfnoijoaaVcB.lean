/-
  Part of a proof: A size twice as great, one place lower, is packed as the same (slipsticklaw19.PackScaled).
-/
import Derived.Test.YtpcpdepfnoijoaaVc21
import Derived.Test.YtpcpdepfnoijoaaProg
import Derived.KernelRfl
import Derived.Laws.Pointers
namespace Go.Proofs.Ytpcpdepfnoijoaa
open Go.Vc
theorem ag25 : agN Try.prog 25 = some 3 := by kernel_rfl
theorem ag44 : agN Try.prog 44 = some 5 := by kernel_rfl
theorem ag63 : agN Try.prog 63 = some 3 := by kernel_rfl
theorem ag72 : agN Try.prog 72 = some 4 := by kernel_rfl
theorem ag75 : agN Try.prog 75 = some 4 := by kernel_rfl
theorem ag89 : agN Try.prog 89 = some 4 := by kernel_rfl
theorem ag91 : agN Try.prog 91 = some 2 := by kernel_rfl
theorem ag104 : agN Try.prog 104 = some 3 := by kernel_rfl
theorem ag118 : agN Try.prog 118 = some 9 := by kernel_rfl
theorem ag128 : agN Try.prog 128 = some 7 := by kernel_rfl
theorem ag141 : agN Try.prog 141 = some 5 := by kernel_rfl
theorem ag158 : agN Try.prog 158 = some 6 := by kernel_rfl
theorem ag207 : agN Try.prog 207 = some 4 := by kernel_rfl
theorem ar118 : arT Try.prog 118 = some (3, 63, 3) := by kernel_rfl
theorem ar138 : arT Try.prog 138 = some (2, 23, 1) := by kernel_rfl
theorem bo4 : isBo Try.prog 4 = true := by kernel_rfl
theorem fo25_0 : foA Try.prog 25 0 = some (0, 1) := by kernel_rfl
theorem fo25_1 : foA Try.prog 25 1 = some (1, 1) := by kernel_rfl
theorem fo25_2 : foA Try.prog 25 2 = some (2, 1) := by kernel_rfl
theorem fo63_0 : foA Try.prog 63 0 = some (0, 1) := by kernel_rfl
theorem fo63_1 : foA Try.prog 63 1 = some (1, 1) := by kernel_rfl
theorem fo63_2 : foA Try.prog 63 2 = some (2, 1) := by kernel_rfl
theorem fo72_0 : foA Try.prog 72 0 = some (0, 1) := by kernel_rfl
theorem fo72_1 : foA Try.prog 72 1 = some (1, 1) := by kernel_rfl
theorem fo72_2 : foA Try.prog 72 2 = some (2, 1) := by kernel_rfl
theorem fo72_3 : foA Try.prog 72 3 = some (3, 1) := by kernel_rfl
theorem fo89_0 : foA Try.prog 89 0 = some (0, 1) := by kernel_rfl
theorem fo89_1 : foA Try.prog 89 1 = some (1, 1) := by kernel_rfl
theorem fo89_2 : foA Try.prog 89 2 = some (2, 1) := by kernel_rfl
theorem fo89_3 : foA Try.prog 89 3 = some (3, 1) := by kernel_rfl
theorem fo91_0 : foA Try.prog 91 0 = some (0, 1) := by kernel_rfl
theorem fo91_1 : foA Try.prog 91 1 = some (1, 1) := by kernel_rfl
theorem fo104_0 : foA Try.prog 104 0 = some (0, 1) := by kernel_rfl
theorem fo104_1 : foA Try.prog 104 1 = some (1, 1) := by kernel_rfl
theorem fo104_2 : foA Try.prog 104 2 = some (2, 1) := by kernel_rfl
theorem fo128_0 : foA Try.prog 128 0 = some (0, 3) := by kernel_rfl
theorem fo128_1 : foA Try.prog 128 1 = some (3, 4) := by kernel_rfl
theorem fo141_0 : foA Try.prog 141 0 = some (0, 3) := by kernel_rfl
theorem fo141_1 : foA Try.prog 141 1 = some (3, 1) := by kernel_rfl
theorem fo141_2 : foA Try.prog 141 2 = some (4, 1) := by kernel_rfl
theorem fo158_0 : foA Try.prog 158 0 = some (0, 1) := by kernel_rfl
theorem fo158_1 : foA Try.prog 158 1 = some (1, 1) := by kernel_rfl
theorem fo158_2 : foA Try.prog 158 2 = some (2, 1) := by kernel_rfl
theorem fo158_3 : foA Try.prog 158 3 = some (3, 1) := by kernel_rfl
theorem fo158_4 : foA Try.prog 158 4 = some (4, 1) := by kernel_rfl
theorem fo207_0 : foA Try.prog 207 0 = some (0, 3) := by kernel_rfl
theorem fo207_1 : foA Try.prog 207 1 = some (3, 1) := by kernel_rfl
theorem go2 : isGo Try.prog 2 = true := by kernel_rfl
theorem go3 : isGo Try.prog 3 = true := by kernel_rfl
theorem go4 : isGo Try.prog 4 = true := by kernel_rfl
theorem go5 : isGo Try.prog 5 = true := by kernel_rfl
theorem go6 : isGo Try.prog 6 = true := by kernel_rfl
theorem go7 : isGo Try.prog 7 = true := by kernel_rfl
theorem go8 : isGo Try.prog 8 = true := by kernel_rfl
theorem go9 : isGo Try.prog 9 = true := by kernel_rfl
theorem go10 : isGo Try.prog 10 = true := by kernel_rfl
theorem go11 : isGo Try.prog 11 = true := by kernel_rfl
theorem go12 : isGo Try.prog 12 = true := by kernel_rfl
theorem go13 : isGo Try.prog 13 = true := by kernel_rfl
theorem go14 : isGo Try.prog 14 = true := by kernel_rfl
theorem go15 : isGo Try.prog 15 = true := by kernel_rfl
theorem go16 : isGo Try.prog 16 = true := by kernel_rfl
theorem go17 : isGo Try.prog 17 = true := by kernel_rfl
theorem go18 : isGo Try.prog 18 = true := by kernel_rfl
theorem go19 : isGo Try.prog 19 = true := by kernel_rfl
theorem go20 : isGo Try.prog 20 = true := by kernel_rfl
theorem go21 : isGo Try.prog 21 = true := by kernel_rfl
theorem go22 : isGo Try.prog 22 = true := by kernel_rfl
theorem go23 : isGo Try.prog 23 = true := by kernel_rfl
theorem go24 : isGo Try.prog 24 = true := by kernel_rfl
theorem go25 : isGo Try.prog 25 = true := by kernel_rfl
theorem go26 : isGo Try.prog 26 = true := by kernel_rfl
theorem go27 : isGo Try.prog 27 = true := by kernel_rfl
theorem go28 : isGo Try.prog 28 = true := by kernel_rfl
theorem go29 : isGo Try.prog 29 = true := by kernel_rfl
theorem go30 : isGo Try.prog 30 = true := by kernel_rfl
theorem go31 : isGo Try.prog 31 = true := by kernel_rfl
theorem go32 : isGo Try.prog 32 = true := by kernel_rfl
theorem go33 : isGo Try.prog 33 = true := by kernel_rfl
theorem go34 : isGo Try.prog 34 = true := by kernel_rfl
theorem go35 : isGo Try.prog 35 = true := by kernel_rfl
theorem go36 : isGo Try.prog 36 = true := by kernel_rfl
theorem go37 : isGo Try.prog 37 = true := by kernel_rfl
theorem go38 : isGo Try.prog 38 = true := by kernel_rfl
theorem go39 : isGo Try.prog 39 = true := by kernel_rfl
theorem go40 : isGo Try.prog 40 = true := by kernel_rfl
theorem go41 : isGo Try.prog 41 = true := by kernel_rfl
theorem go42 : isGo Try.prog 42 = true := by kernel_rfl
theorem go43 : isGo Try.prog 43 = true := by kernel_rfl
theorem go44 : isGo Try.prog 44 = true := by kernel_rfl
theorem go45 : isGo Try.prog 45 = true := by kernel_rfl
theorem go46 : isGo Try.prog 46 = true := by kernel_rfl
theorem go47 : isGo Try.prog 47 = true := by kernel_rfl
theorem go48 : isGo Try.prog 48 = true := by kernel_rfl
theorem go49 : isGo Try.prog 49 = true := by kernel_rfl
theorem go50 : isGo Try.prog 50 = true := by kernel_rfl
theorem go51 : isGo Try.prog 51 = true := by kernel_rfl
theorem go52 : isGo Try.prog 52 = true := by kernel_rfl
theorem go53 : isGo Try.prog 53 = true := by kernel_rfl
theorem go54 : isGo Try.prog 54 = true := by kernel_rfl
theorem go55 : isGo Try.prog 55 = true := by kernel_rfl
theorem go56 : isGo Try.prog 56 = true := by kernel_rfl
theorem go57 : isGo Try.prog 57 = true := by kernel_rfl
theorem go58 : isGo Try.prog 58 = true := by kernel_rfl
theorem go59 : isGo Try.prog 59 = true := by kernel_rfl
theorem go60 : isGo Try.prog 60 = true := by kernel_rfl
theorem go61 : isGo Try.prog 61 = true := by kernel_rfl
theorem go62 : isGo Try.prog 62 = true := by kernel_rfl
theorem go63 : isGo Try.prog 63 = true := by kernel_rfl
theorem go64 : isGo Try.prog 64 = true := by kernel_rfl
theorem go65 : isGo Try.prog 65 = true := by kernel_rfl
theorem go66 : isGo Try.prog 66 = true := by kernel_rfl
theorem go67 : isGo Try.prog 67 = true := by kernel_rfl
theorem go68 : isGo Try.prog 68 = true := by kernel_rfl
theorem go69 : isGo Try.prog 69 = true := by kernel_rfl
theorem go70 : isGo Try.prog 70 = true := by kernel_rfl
theorem go71 : isGo Try.prog 71 = true := by kernel_rfl
theorem go72 : isGo Try.prog 72 = true := by kernel_rfl
theorem go73 : isGo Try.prog 73 = true := by kernel_rfl
theorem go74 : isGo Try.prog 74 = true := by kernel_rfl
theorem go75 : isGo Try.prog 75 = true := by kernel_rfl
theorem go76 : isGo Try.prog 76 = true := by kernel_rfl
theorem go77 : isGo Try.prog 77 = true := by kernel_rfl
theorem go78 : isGo Try.prog 78 = true := by kernel_rfl
theorem go79 : isGo Try.prog 79 = true := by kernel_rfl
theorem go80 : isGo Try.prog 80 = true := by kernel_rfl
theorem go81 : isGo Try.prog 81 = true := by kernel_rfl
theorem go82 : isGo Try.prog 82 = true := by kernel_rfl
theorem go83 : isGo Try.prog 83 = true := by kernel_rfl
theorem go84 : isGo Try.prog 84 = true := by kernel_rfl
theorem go85 : isGo Try.prog 85 = true := by kernel_rfl
theorem go86 : isGo Try.prog 86 = true := by kernel_rfl
theorem go87 : isGo Try.prog 87 = true := by kernel_rfl
theorem go88 : isGo Try.prog 88 = true := by kernel_rfl
theorem go89 : isGo Try.prog 89 = true := by kernel_rfl
theorem go90 : isGo Try.prog 90 = true := by kernel_rfl
theorem go91 : isGo Try.prog 91 = true := by kernel_rfl
theorem go92 : isGo Try.prog 92 = true := by kernel_rfl
theorem go93 : isGo Try.prog 93 = true := by kernel_rfl
theorem go94 : isGo Try.prog 94 = true := by kernel_rfl
theorem go95 : isGo Try.prog 95 = true := by kernel_rfl
theorem go96 : isGo Try.prog 96 = true := by kernel_rfl
theorem go97 : isGo Try.prog 97 = true := by kernel_rfl
theorem go98 : isGo Try.prog 98 = true := by kernel_rfl
theorem go99 : isGo Try.prog 99 = true := by kernel_rfl
theorem go100 : isGo Try.prog 100 = true := by kernel_rfl
theorem go101 : isGo Try.prog 101 = true := by kernel_rfl
theorem go102 : isGo Try.prog 102 = true := by kernel_rfl
theorem go103 : isGo Try.prog 103 = true := by kernel_rfl
theorem go104 : isGo Try.prog 104 = true := by kernel_rfl
theorem go105 : isGo Try.prog 105 = true := by kernel_rfl
theorem go106 : isGo Try.prog 106 = true := by kernel_rfl
theorem go107 : isGo Try.prog 107 = true := by kernel_rfl
theorem go108 : isGo Try.prog 108 = true := by kernel_rfl
theorem go109 : isGo Try.prog 109 = true := by kernel_rfl
theorem go110 : isGo Try.prog 110 = true := by kernel_rfl
theorem go111 : isGo Try.prog 111 = true := by kernel_rfl
theorem go112 : isGo Try.prog 112 = true := by kernel_rfl
theorem go113 : isGo Try.prog 113 = true := by kernel_rfl
theorem go114 : isGo Try.prog 114 = true := by kernel_rfl
theorem go115 : isGo Try.prog 115 = true := by kernel_rfl
theorem go116 : isGo Try.prog 116 = true := by kernel_rfl
theorem go117 : isGo Try.prog 117 = true := by kernel_rfl
theorem go118 : isGo Try.prog 118 = true := by kernel_rfl
theorem go119 : isGo Try.prog 119 = true := by kernel_rfl
theorem go120 : isGo Try.prog 120 = true := by kernel_rfl
theorem go121 : isGo Try.prog 121 = true := by kernel_rfl
theorem go122 : isGo Try.prog 122 = true := by kernel_rfl
theorem go123 : isGo Try.prog 123 = true := by kernel_rfl
theorem go124 : isGo Try.prog 124 = true := by kernel_rfl
theorem go125 : isGo Try.prog 125 = true := by kernel_rfl
theorem go126 : isGo Try.prog 126 = true := by kernel_rfl
theorem go127 : isGo Try.prog 127 = true := by kernel_rfl
theorem go128 : isGo Try.prog 128 = true := by kernel_rfl
theorem go129 : isGo Try.prog 129 = true := by kernel_rfl
theorem go130 : isGo Try.prog 130 = true := by kernel_rfl
theorem go131 : isGo Try.prog 131 = true := by kernel_rfl
theorem go132 : isGo Try.prog 132 = true := by kernel_rfl
theorem go133 : isGo Try.prog 133 = true := by kernel_rfl
theorem go134 : isGo Try.prog 134 = true := by kernel_rfl
theorem go135 : isGo Try.prog 135 = true := by kernel_rfl
theorem go136 : isGo Try.prog 136 = true := by kernel_rfl
theorem go137 : isGo Try.prog 137 = true := by kernel_rfl
theorem go138 : isGo Try.prog 138 = true := by kernel_rfl
theorem go139 : isGo Try.prog 139 = true := by kernel_rfl
theorem go140 : isGo Try.prog 140 = true := by kernel_rfl
theorem go141 : isGo Try.prog 141 = true := by kernel_rfl
theorem go142 : isGo Try.prog 142 = true := by kernel_rfl
theorem go143 : isGo Try.prog 143 = true := by kernel_rfl
theorem go144 : isGo Try.prog 144 = true := by kernel_rfl
theorem go145 : isGo Try.prog 145 = true := by kernel_rfl
theorem go146 : isGo Try.prog 146 = true := by kernel_rfl
theorem go147 : isGo Try.prog 147 = true := by kernel_rfl
theorem go148 : isGo Try.prog 148 = true := by kernel_rfl
theorem go149 : isGo Try.prog 149 = true := by kernel_rfl
theorem go150 : isGo Try.prog 150 = true := by kernel_rfl
theorem go151 : isGo Try.prog 151 = true := by kernel_rfl
theorem go152 : isGo Try.prog 152 = true := by kernel_rfl
theorem go153 : isGo Try.prog 153 = true := by kernel_rfl
theorem go154 : isGo Try.prog 154 = true := by kernel_rfl
theorem go155 : isGo Try.prog 155 = true := by kernel_rfl
theorem go156 : isGo Try.prog 156 = true := by kernel_rfl
theorem go157 : isGo Try.prog 157 = true := by kernel_rfl
theorem go158 : isGo Try.prog 158 = true := by kernel_rfl
theorem go159 : isGo Try.prog 159 = true := by kernel_rfl
theorem go160 : isGo Try.prog 160 = true := by kernel_rfl
theorem go161 : isGo Try.prog 161 = true := by kernel_rfl
theorem go162 : isGo Try.prog 162 = true := by kernel_rfl
theorem go163 : isGo Try.prog 163 = true := by kernel_rfl
theorem go164 : isGo Try.prog 164 = true := by kernel_rfl
theorem go165 : isGo Try.prog 165 = true := by kernel_rfl
theorem go166 : isGo Try.prog 166 = true := by kernel_rfl
theorem go167 : isGo Try.prog 167 = true := by kernel_rfl
theorem go168 : isGo Try.prog 168 = true := by kernel_rfl
theorem go169 : isGo Try.prog 169 = true := by kernel_rfl
theorem go170 : isGo Try.prog 170 = true := by kernel_rfl
theorem go171 : isGo Try.prog 171 = true := by kernel_rfl
theorem go172 : isGo Try.prog 172 = true := by kernel_rfl
theorem go173 : isGo Try.prog 173 = true := by kernel_rfl
theorem go174 : isGo Try.prog 174 = true := by kernel_rfl
theorem go175 : isGo Try.prog 175 = true := by kernel_rfl
theorem go176 : isGo Try.prog 176 = true := by kernel_rfl
theorem go177 : isGo Try.prog 177 = true := by kernel_rfl
theorem go178 : isGo Try.prog 178 = true := by kernel_rfl
theorem go179 : isGo Try.prog 179 = true := by kernel_rfl
theorem go180 : isGo Try.prog 180 = true := by kernel_rfl
theorem go181 : isGo Try.prog 181 = true := by kernel_rfl
theorem go182 : isGo Try.prog 182 = true := by kernel_rfl
theorem go183 : isGo Try.prog 183 = true := by kernel_rfl
theorem go184 : isGo Try.prog 184 = true := by kernel_rfl
theorem go185 : isGo Try.prog 185 = true := by kernel_rfl
theorem go186 : isGo Try.prog 186 = true := by kernel_rfl
theorem go187 : isGo Try.prog 187 = true := by kernel_rfl
theorem go188 : isGo Try.prog 188 = true := by kernel_rfl
theorem go189 : isGo Try.prog 189 = true := by kernel_rfl
theorem go190 : isGo Try.prog 190 = true := by kernel_rfl
theorem go191 : isGo Try.prog 191 = true := by kernel_rfl
theorem go192 : isGo Try.prog 192 = true := by kernel_rfl
theorem go193 : isGo Try.prog 193 = true := by kernel_rfl
theorem ik3 : inK Try.prog 3 = some .i64 := by kernel_rfl
theorem ik5 : inK Try.prog 5 = some .u8 := by kernel_rfl
theorem ik56 : inK Try.prog 56 = some .u64 := by kernel_rfl
theorem ik92 : inK Try.prog 92 = some .u32 := by kernel_rfl
theorem ik109 : inK Try.prog 109 = some .u64 := by kernel_rfl
theorem mp208 : mpT Try.prog 208 = some (89, 3) := by kernel_rfl
theorem mp221 : mpT Try.prog 221 = some (9, 4) := by kernel_rfl
theorem pk9 : plKey Try.prog 9 = true := by kernel_rfl
theorem pl25 : plA Try.prog 25 = some [(0, 1), (1, 1), (2, 1)] := by kernel_rfl
theorem pl63 : plA Try.prog 63 = some [(0, 1), (1, 1), (2, 1)] := by kernel_rfl
theorem pl72 : plA Try.prog 72 = some [(0, 1), (1, 1), (2, 1), (3, 1)] := by kernel_rfl
theorem pl89 : plA Try.prog 89 = some [(0, 1), (1, 1), (2, 1), (3, 1)] := by kernel_rfl
theorem pl91 : plA Try.prog 91 = some [(0, 1), (1, 1)] := by kernel_rfl
theorem pl104 : plA Try.prog 104 = some [(0, 1), (1, 1), (2, 1)] := by kernel_rfl
theorem pl128 : plA Try.prog 128 = some [(0, 3), (3, 4)] := by kernel_rfl
theorem pl141 : plA Try.prog 141 = some [(0, 3), (3, 1), (4, 1)] := by kernel_rfl
theorem pl158 : plA Try.prog 158 = some [(0, 1), (1, 1), (2, 1), (3, 1), (4, 1), (5, 1)] := by kernel_rfl
theorem pl207 : plA Try.prog 207 = some [(0, 3), (3, 1)] := by kernel_rfl
theorem sc3 : isSc Try.prog 3 = true := by kernel_rfl
theorem sc4 : isSc Try.prog 4 = true := by kernel_rfl
theorem sc5 : isSc Try.prog 5 = true := by kernel_rfl
theorem sc9 : isSc Try.prog 9 = true := by kernel_rfl
theorem sc22 : isSc Try.prog 22 = true := by kernel_rfl
theorem sc23 : isSc Try.prog 23 = true := by kernel_rfl
theorem sc33 : isSc Try.prog 33 = true := by kernel_rfl
theorem sc35 : isSc Try.prog 35 = true := by kernel_rfl
theorem sc40 : isSc Try.prog 40 = true := by kernel_rfl
theorem sc47 : isSc Try.prog 47 = true := by kernel_rfl
theorem sc53 : isSc Try.prog 53 = true := by kernel_rfl
theorem sc61 : isSc Try.prog 61 = true := by kernel_rfl
theorem sc92 : isSc Try.prog 92 = true := by kernel_rfl
theorem sc93 : isSc Try.prog 93 = true := by kernel_rfl
theorem sc139 : isSc Try.prog 139 = true := by kernel_rfl
theorem sc160 : isSc Try.prog 160 = true := by kernel_rfl
theorem sc214 : isSc Try.prog 214 = true := by kernel_rfl
theorem si63 : stI Try.prog 63 = some 3 := by kernel_rfl
theorem si72 : stI Try.prog 72 = some 4 := by kernel_rfl
theorem si89 : stI Try.prog 89 = some 4 := by kernel_rfl
theorem sl22 : slT Try.prog 22 = some (89, 4, 32) := by kernel_rfl
theorem sl23 : slT Try.prog 23 = some (91, 2, 40) := by kernel_rfl
theorem sl26 : slT Try.prog 26 = some (35, 1, 24) := by kernel_rfl
theorem sl33 : slT Try.prog 33 = some (53, 1, 24) := by kernel_rfl
theorem sl35 : slT Try.prog 35 = some (61, 1, 24) := by kernel_rfl
theorem sl40 : slT Try.prog 40 = some (3, 1, 8) := by kernel_rfl
theorem sl47 : slT Try.prog 47 = some (4, 1, 1) := by kernel_rfl
theorem sl48 : slT Try.prog 48 = some (4, 1, 1) := by kernel_rfl
theorem sl53 : slT Try.prog 53 = some (92, 1, 4) := by kernel_rfl
theorem sl61 : slT Try.prog 61 = some (92, 1, 4) := by kernel_rfl
theorem sl80 : slT Try.prog 80 = some (33, 1, 24) := by kernel_rfl
theorem sl139 : slT Try.prog 139 = some (5, 1, 1) := by kernel_rfl
theorem sl182 : slT Try.prog 182 = some (40, 1, 24) := by kernel_rfl
theorem sl219 : slT Try.prog 219 = some (9, 1, 16) := by kernel_rfl
theorem sl228 : slT Try.prog 228 = some (23, 1, 24) := by kernel_rfl
theorem st9 : isSt Try.prog 9 = true := by kernel_rfl
theorem sz3 : szO Try.prog 3 = some 1 := by kernel_rfl
theorem sz4 : szO Try.prog 4 = some 1 := by kernel_rfl
theorem sz5 : szO Try.prog 5 = some 1 := by kernel_rfl
theorem sz9 : szO Try.prog 9 = some 1 := by kernel_rfl
theorem sz22 : szO Try.prog 22 = some 1 := by kernel_rfl
theorem sz23 : szO Try.prog 23 = some 1 := by kernel_rfl
theorem sz25 : szO Try.prog 25 = some 3 := by kernel_rfl
theorem sz33 : szO Try.prog 33 = some 1 := by kernel_rfl
theorem sz35 : szO Try.prog 35 = some 1 := by kernel_rfl
theorem sz40 : szO Try.prog 40 = some 1 := by kernel_rfl
theorem sz44 : szO Try.prog 44 = some 5 := by kernel_rfl
theorem sz47 : szO Try.prog 47 = some 1 := by kernel_rfl
theorem sz53 : szO Try.prog 53 = some 1 := by kernel_rfl
theorem sz61 : szO Try.prog 61 = some 1 := by kernel_rfl
theorem sz63 : szO Try.prog 63 = some 3 := by kernel_rfl
theorem sz72 : szO Try.prog 72 = some 4 := by kernel_rfl
theorem sz75 : szO Try.prog 75 = some 4 := by kernel_rfl
theorem sz89 : szO Try.prog 89 = some 4 := by kernel_rfl
theorem sz91 : szO Try.prog 91 = some 2 := by kernel_rfl
theorem sz92 : szO Try.prog 92 = some 1 := by kernel_rfl
theorem sz93 : szO Try.prog 93 = some 1 := by kernel_rfl
theorem sz104 : szO Try.prog 104 = some 3 := by kernel_rfl
theorem sz118 : szO Try.prog 118 = some 9 := by kernel_rfl
theorem sz128 : szO Try.prog 128 = some 7 := by kernel_rfl
theorem sz139 : szO Try.prog 139 = some 1 := by kernel_rfl
theorem sz141 : szO Try.prog 141 = some 5 := by kernel_rfl
theorem sz158 : szO Try.prog 158 = some 6 := by kernel_rfl
theorem sz160 : szO Try.prog 160 = some 1 := by kernel_rfl
theorem sz207 : szO Try.prog 207 = some 4 := by kernel_rfl
theorem sz214 : szO Try.prog 214 = some 1 := by kernel_rfl
theorem us3 : (Try.prog.underlying 3).isSome = true := by kernel_rfl
theorem us5 : (Try.prog.underlying 5).isSome = true := by kernel_rfl
theorem us37 : (Try.prog.underlying 37).isSome = true := by kernel_rfl
theorem us56 : (Try.prog.underlying 56).isSome = true := by kernel_rfl
theorem us92 : (Try.prog.underlying 92).isSome = true := by kernel_rfl
theorem us109 : (Try.prog.underlying 109).isSome = true := by kernel_rfl
theorem zo3 : zrOK Try.prog 3 1 = true := by kernel_rfl
theorem zo4 : zrOK Try.prog 4 1 = true := by kernel_rfl
theorem zo5 : zrOK Try.prog 5 1 = true := by kernel_rfl
theorem zo9 : zrOK Try.prog 9 1 = true := by kernel_rfl
theorem zo23 : zrOK Try.prog 23 1 = true := by kernel_rfl
theorem zo33 : zrOK Try.prog 33 1 = true := by kernel_rfl
theorem zo35 : zrOK Try.prog 35 1 = true := by kernel_rfl
theorem zo40 : zrOK Try.prog 40 1 = true := by kernel_rfl
theorem zo53 : zrOK Try.prog 53 1 = true := by kernel_rfl
theorem zo61 : zrOK Try.prog 61 1 = true := by kernel_rfl
theorem zo89 : zrOK Try.prog 89 4 = true := by kernel_rfl
theorem zo91 : zrOK Try.prog 91 2 = true := by kernel_rfl
theorem zo92 : zrOK Try.prog 92 1 = true := by kernel_rfl
theorem zr3 : zrA Try.prog 3 = some [.int .i64 0] := by kernel_rfl
theorem zr4 : zrA Try.prog 4 = some [.bool false] := by kernel_rfl
theorem zr5 : zrA Try.prog 5 = some [.int .u8 0] := by kernel_rfl
theorem zr9 : zrA Try.prog 9 = some [.string ByteArray.empty] := by kernel_rfl
theorem zr22 : zrA Try.prog 22 = some [.slice none 0 0] := by kernel_rfl
theorem zr23 : zrA Try.prog 23 = some [.slice none 0 0] := by kernel_rfl
theorem zr25 : zrA Try.prog 25 = some [.slice none 0 0, .slice none 0 0, .slice none 0 0] := by kernel_rfl
theorem zr33 : zrA Try.prog 33 = some [.slice none 0 0] := by kernel_rfl
theorem zr35 : zrA Try.prog 35 = some [.slice none 0 0] := by kernel_rfl
theorem zr40 : zrA Try.prog 40 = some [.slice none 0 0] := by kernel_rfl
theorem zr44 : zrA Try.prog 44 = some [.int .i64 0, .int .i64 0, .int .i64 0, .int .i64 0, .int .i64 0] := by kernel_rfl
theorem zr47 : zrA Try.prog 47 = some [.slice none 0 0] := by kernel_rfl
theorem zr53 : zrA Try.prog 53 = some [.slice none 0 0] := by kernel_rfl
theorem zr61 : zrA Try.prog 61 = some [.slice none 0 0] := by kernel_rfl
theorem zr63 : zrA Try.prog 63 = some [.int .i64 0, .int .i64 0, .int .i64 0] := by kernel_rfl
theorem zr72 : zrA Try.prog 72 = some [.int .i64 0, .int .i64 0, .int .i64 0, .int .i64 0] := by kernel_rfl
theorem zr75 : zrA Try.prog 75 = some [.int .i64 0, .int .i64 0, .int .i64 0, .int .i64 0] := by kernel_rfl
theorem zr89 : zrA Try.prog 89 = some [.int .i64 0, .int .i64 0, .int .i64 0, .int .i64 0] := by kernel_rfl
theorem zr91 : zrA Try.prog 91 = some [.string ByteArray.empty, .slice none 0 0] := by kernel_rfl
theorem zr92 : zrA Try.prog 92 = some [.int .u32 0] := by kernel_rfl
theorem zr93 : zrA Try.prog 93 = some [.pointer none] := by kernel_rfl
theorem zr104 : zrA Try.prog 104 = some [.slice none 0 0, .slice none 0 0, .slice none 0 0] := by kernel_rfl
theorem zr118 : zrA Try.prog 118 = some [.int .i64 0, .int .i64 0, .int .i64 0, .int .i64 0, .int .i64 0, .int .i64 0, .int .i64 0, .int .i64 0, .int .i64 0] := by kernel_rfl
theorem zr128 : zrA Try.prog 128 = some [.slice none 0 0, .slice none 0 0, .slice none 0 0, .int .i64 0, .int .i64 0, .int .i64 0, .int .i64 0] := by kernel_rfl
theorem zr138 : zrA Try.prog 138 = some [.slice none 0 0, .slice none 0 0] := by kernel_rfl
theorem zr139 : zrA Try.prog 139 = some [.slice none 0 0] := by kernel_rfl
theorem zr141 : zrA Try.prog 141 = some [.slice none 0 0, .slice none 0 0, .slice none 0 0, .slice none 0 0, .slice none 0 0] := by kernel_rfl
theorem zr158 : zrA Try.prog 158 = some [.slice none 0 0, .int .i64 0, .int .i64 0, .slice none 0 0, .int .i64 0, .int .i64 0] := by kernel_rfl
theorem zr160 : zrA Try.prog 160 = some [.nilFunc] := by kernel_rfl
theorem zr207 : zrA Try.prog 207 = some [.slice none 0 0, .slice none 0 0, .slice none 0 0, .slice none 0 0] := by kernel_rfl
theorem zr214 : zrA Try.prog 214 = some [.nilFunc] := by kernel_rfl
theorem zv3 : zvA Try.prog 3 = some (.int .i64 0) := by kernel_rfl
theorem zv4 : zvA Try.prog 4 = some (.bool false) := by kernel_rfl
theorem mx : Try.prog.follows .mixedOrders = true := by kernel_rfl
end Go.Proofs.Ytpcpdepfnoijoaa

set_option linter.unusedVariables false
namespace Go.Vc
def U32 (l : List Int) : Prop := ∀ n ∈ l, 0 ≤ n ∧ n < 4294967296
theorem U32.get {l : List Int} (h : U32 l) (i : Nat) : 0 ≤ l.getD i 0 ∧ l.getD i 0 < 4294967296 := by
  rw [List.getD_eq_getElem?_getD]
  rcases Nat.lt_or_ge i l.length with hi | hi
  · rw [List.getElem?_eq_getElem hi]; exact h _ (List.getElem_mem hi)
  · rw [List.getElem?_eq_none hi]; decide
theorem U32.take {l : List Int} (h : U32 l) (n : Nat) : U32 (l.take n) := fun x hx => h x (List.mem_of_mem_take hx)
def natPart (l : List Int) (i : Int) : Int := if i < 0 then 0 else l.getD i.toNat 0
theorem natPart_u32 {l : List Int} (h : U32 l) (i : Int) : 0 ≤ natPart l i ∧ natPart l i < 4294967296 := by
  unfold natPart; split
  · decide
  · exact h.get _
def trimN (l : List Int) : Nat → Nat
  | 0 => 0
  | n + 1 => if l.getD n 0 = 0 then trimN l n else n + 1
theorem trimN_le (l : List Int) : ∀ n, trimN l n ≤ n
  | 0 => Nat.le_refl _
  | n + 1 => by unfold trimN; split; exact Nat.le_succ_of_le (trimN_le l n); exact Nat.le_refl _
def natTrim (l : List Int) : List Int := l.take (trimN l l.length)
theorem natTrim_len (l : List Int) : (natTrim l).length ≤ l.length := by unfold natTrim; rw [List.length_take]; omega
theorem natTrim_u32 {l : List Int} (h : U32 l) : U32 (natTrim l) := h.take _
def natBit (l : List Int) (i : Nat) : Int := l.getD (i / 32) 0 / 2 ^ (i % 32) % 2
theorem natBit_01 (l : List Int) (i : Nat) : natBit l i = 0 ∨ natBit l i = 1 := by unfold natBit; omega
def topLen : Nat → Int → Nat
  | 0, _ => 0
  | f + 1, n => if 0 < n then topLen f (n / 2) + 1 else 0
theorem topLen_le : ∀ (f : Nat) (n : Int), topLen f n ≤ f
  | 0, _ => Nat.le_refl _
  | f + 1, n => by unfold topLen; split; exact Nat.succ_le_succ (topLen_le f _); omega
theorem topLen_st : ∀ (f : Nat) (n : Int), n < 2 ^ f → topLen (f + 1) n = topLen f n
  | 0, n, h => by
    have : ¬ 0 < n := by simp at h; omega
    simp [topLen, this]
  | f + 1, n, h => by
    rw [topLen]
    conv => rhs; rw [topLen]
    split
    · rw [topLen_st f (n / 2) (by rw [Int.pow_succ] at h; omega)]
    · rfl
def natLen (l : List Int) : Nat := if natTrim l = [] then 0 else 32 * ((natTrim l).length - 1) + topLen 32 ((natTrim l).getD ((natTrim l).length - 1) 0)
def addG (a b : List Int) : Nat → List Int × Int
  | 0 => ([], 0)
  | n + 1 =>
    let r := addG a b n
    let c := r.2 + (natPart a n + natPart b n)
    (r.1 ++ [c % 4294967296], c / 4294967296)
theorem addG_len (a b : List Int) : ∀ n, (addG a b n).1.length = n
  | 0 => rfl
  | n + 1 => by simp [addG, addG_len a b n]
theorem addG_carry {a b : List Int} (ha : U32 a) (hb : U32 b) : ∀ n, 0 ≤ (addG a b n).2 ∧ (addG a b n).2 ≤ 1
  | 0 => by simp [addG]
  | n + 1 => by
    have := addG_carry ha hb n
    have h1 := natPart_u32 ha n
    have h2 := natPart_u32 hb n
    simp only [addG]
    omega
theorem addG_u32 {a b : List Int} (ha : U32 a) (hb : U32 b) : ∀ n, U32 (addG a b n).1
  | 0 => by intro x hx; simp [addG] at hx
  | n + 1 => by
    intro x hx
    simp only [addG, List.mem_append, List.mem_singleton] at hx
    rcases hx with hx | rfl
    · exact addG_u32 ha hb n x hx
    · omega
def natAdd (a b : List Int) : List Int := natTrim (addG a b (max a.length b.length + 1)).1
theorem natAdd_u32 {a b : List Int} (ha : U32 a) (hb : U32 b) : U32 (natAdd a b) := natTrim_u32 (addG_u32 ha hb _)
theorem natAdd_len (a b : List Int) : (natAdd a b).length ≤ max a.length b.length + 1 := by
  unfold natAdd
  exact Nat.le_trans (natTrim_len _) (by rw [addG_len]; exact Nat.le_refl _)
def cmpG (a b : List Int) : Nat → Int
  | 0 => 0
  | n + 1 => if natPart a n < natPart b n then -1 else if natPart b n < natPart a n then 1 else cmpG a b n
def natCmp (a b : List Int) : Int := cmpG a b (max a.length b.length)
theorem and1_u32 {m : Int} (h0 : 0 ≤ m) (h1 : m < 4294967296) : bitsV .and .u32 m 1 = m % 2 := by
  obtain ⟨k, rfl⟩ := Int.eq_ofNat_of_zero_le h0
  have hk : k < 4294967296 := by omega
  show IntKind.u32.wrap (((BitVec.ofInt 32 (k : Int) &&& BitVec.ofInt 32 1).toNat : Nat) : Int) = _
  have : ((BitVec.ofInt 32 (k : Int) &&& BitVec.ofInt 32 1).toNat) = k % 2 := by
    rw [BitVec.toNat_and]
    simp
    try omega
  rw [this, IntKind.wrap_u32]
  omega
theorem quo32 {i : Int} (h0 : 0 ≤ i) (h1 : i < 9223372036854775808) : IntKind.i64.wrap (i.tdiv 32) = i / 32 := by
  rw [Int.tdiv_eq_ediv_of_nonneg h0, IntKind.wrap_i64]; omega
theorem rem32 {i : Int} (h0 : 0 ≤ i) : i.tmod 32 = i % 32 := Int.tmod_eq_emod_of_nonneg h0
theorem fdiv_pow {m : Int} {k : Nat} : m.fdiv (2 ^ k) = m / 2 ^ k := by
  rw [Int.fdiv_eq_ediv_of_nonneg]; exact Int.le_of_lt (Int.pow_pos (by decide))
theorem natBit_shr (l : List Int) (i : Nat) : (natPart l ((i : Int) / 32)).fdiv (2 ^ (min ((i : Int) % 32).toNat IntKind.u32.bits)) = l.getD (i / 32) 0 / 2 ^ (i % 32) := by
  have e : min ((i : Int) % 32).toNat IntKind.u32.bits = i % 32 := by
    show min ((i : Int) % 32).toNat 32 = i % 32
    omega
  rw [e, fdiv_pow]
  have e2 : natPart l ((i : Int) / 32) = l.getD (i / 32) 0 := by
    unfold natPart
    rw [if_neg (by omega)]
    congr 1
  rw [e2]
theorem div_pow_u32 {m : Int} (h0 : 0 ≤ m) (h1 : m < 4294967296) (k : Nat) : 0 ≤ m / 2 ^ k ∧ m / 2 ^ k < 4294967296 := by
  have hp : (0 : Int) < 2 ^ k := Int.pow_pos (by decide)
  refine ⟨Int.ediv_nonneg h0 (Int.le_of_lt hp), ?_⟩
  have := Int.ediv_le_self (2 ^ k) h0
  omega
theorem shr1_u32 {m : Int} : m.fdiv (2 ^ (min (1 : Int).toNat IntKind.u32.bits)) = m / 2 := by rw [fdiv_pow]; rfl
theorem shr64_32 {m : Int} : m.fdiv (2 ^ (min (32 : Int).toNat IntKind.u64.bits)) = m / 4294967296 := by rw [fdiv_pow]; rfl
theorem wrapU64 {m : Int} (h : 0 ≤ m ∧ m < 4294967296) : IntKind.u64.wrap m = m := by rw [IntKind.wrap_u64]; omega
theorem cmpG_stop (x y : List Int) {n : Nat} (hn : 0 < n) (h : (if natPart x ((n : Int) - 1) < natPart y ((n : Int) - 1) then -1 else if natPart y ((n : Int) - 1) < natPart x ((n : Int) - 1) then 1 else 0) ≠ (0 : Int)) :
    cmpG x y n = (if natPart x ((n : Int) - 1) < natPart y ((n : Int) - 1) then -1 else if natPart y ((n : Int) - 1) < natPart x ((n : Int) - 1) then 1 else 0) := by
  obtain ⟨m, rfl⟩ : ∃ m, n = m + 1 := ⟨n - 1, by omega⟩
  have e : (((m + 1 : Nat) : Int) - 1) = (m : Int) := by omega
  rw [e] at h ⊢
  rw [cmpG]
  by_cases c1 : natPart x m < natPart y m
  · simp [c1]
  · by_cases c2 : natPart y m < natPart x m
    · simp [c1, c2]
    · simp [c1, c2] at h
theorem cmpG_go (x y : List Int) {n : Nat} (hn : 0 < n) (h : ¬ (if natPart x ((n : Int) - 1) < natPart y ((n : Int) - 1) then -1 else if natPart y ((n : Int) - 1) < natPart x ((n : Int) - 1) then 1 else 0) ≠ (0 : Int)) :
    cmpG x y n = cmpG x y (n - 1) := by
  obtain ⟨m, rfl⟩ : ∃ m, n = m + 1 := ⟨n - 1, by omega⟩
  have e : (((m + 1 : Nat) : Int) - 1) = (m : Int) := by omega
  rw [e] at h
  rw [Nat.add_sub_cancel, cmpG]
  by_cases c1 : natPart x m < natPart y m
  · simp [c1] at h
  · by_cases c2 : natPart y m < natPart x m
    · simp [c1, c2] at h
    · simp [c1, c2]
theorem wrapU64b {m : Int} (h : 0 ≤ m ∧ m < 18446744073709551616) : IntKind.u64.wrap m = m := by rw [IntKind.wrap_u64]; omega
end Go.Vc

set_option linter.unusedVariables false
namespace Go.Vc
def usesN (x : Nd) : List Int :=
  if x.k = 2 ∨ x.k = 7 then [x.a] else if x.k = 3 ∨ x.k = 4 ∨ x.k = 5 then [x.a, x.b] else if x.k = 6 then [x.a, x.b, x.c] else []
theorem usesN_len (x : Nd) : (usesN x).length ≤ 3 := by
  unfold usesN; split <;> (try split) <;> (try split) <;> simp
theorem rowsC1_map {α : Type} {f : α → List AV} (hf : ∀ x, (f x).all isC1 = true) (l : List α) : rowsC1 (l.map f) := by
  intro e he c hc
  obtain ⟨x, _, rfl⟩ := List.mem_map.1 he
  exact List.all_eq_true.1 (hf x) c hc
theorem flat_take_succ {α : Type} {ls : List (List α)} {i : Nat} (h : i < ls.length) : (ls.take (i + 1)).flatten = (ls.take i).flatten ++ ls.getD i [] := by
  rw [List.take_add_one, List.getElem?_eq_getElem h, List.flatten_append]
  simp [List.getD_eq_getElem?_getD, h]
theorem flat_take_le {α : Type} (ls : List (List α)) (i : Nat) : (ls.take i).flatten.length ≤ ls.flatten.length := by
  conv => rhs; rw [← List.take_append_drop i ls]
  rw [List.flatten_append, List.length_append]; exact Nat.le_add_right _ _
theorem any_none {α : Type} [Inhabited α] {p : α → Bool} {l : List α} (h : ∀ j, j < l.length → p (l.getD j default) = false) : l.any p = false := by
  rw [List.any_eq_false]
  intro x hx
  obtain ⟨i, hi, rfl⟩ := List.mem_iff_getElem.1 hx
  have := h i hi
  simp [List.getD_eq_getElem?_getD, hi] at this
  simp [this]
theorem any_some {α : Type} [Inhabited α] {p : α → Bool} {l : List α} {i : Nat} (hi : i < l.length) (h : p (l.getD i default) = true) : l.any p = true := by
  rw [List.any_eq_true]
  refine ⟨l[i], List.getElem_mem hi, ?_⟩
  simpa [List.getD_eq_getElem?_getD, hi] using h
def maxL (l : List Int) : Nat → Int
  | 0 => l.getD 0 0
  | n + 1 => max (maxL l n) (l.getD n 0)
theorem maxL_ge {l : List Int} : ∀ {n i : Nat}, i < n → l.getD i 0 ≤ maxL l n
  | n + 1, i, h => by
    rw [maxL]
    rcases Nat.lt_or_ge i n with hh | hh
    · have := maxL_ge (l := l) hh; omega
    · obtain rfl : i = n := by omega
      omega
theorem getD_mem {α : Type} [Inhabited α] {l : List α} {i : Nat} (h : i < l.length) : l.getD i default ∈ l := by
  rw [List.getD_eq_getElem?_getD, List.getElem?_eq_getElem h]; exact List.getElem_mem h
def kws : List ByteArray := [{ data := #[109, 111, 100, 117, 108, 101] }, { data := #[101, 110, 100, 109, 111, 100, 117, 108, 101] }, { data := #[105, 110, 112, 117, 116] }, { data := #[111, 117, 116, 112, 117, 116] }, { data := #[119, 105, 114, 101] }, { data := #[97, 115, 115, 105, 103, 110] }, { data := #[99, 108, 107] }, { data := #[114, 115, 116] }]
end Go.Vc
namespace Go.Vc
def plainN (x : Nd) : Nd :=
  if x.k = 0 then ⟨0, x.a % 2, 0, 0⟩ else if x.k = 7 then ⟨7, x.a, x.b % 2, 0⟩ else if x.k = 2 then ⟨2, x.a, 0, 0⟩
  else if x.k = 3 ∨ x.k = 4 ∨ x.k = 5 then ⟨x.k, x.a, x.b, 0⟩ else if x.k = 6 then x else ⟨x.k, 0, 0, 0⟩
def ndL (x : Nd) : List Int := [x.k, x.a, x.b, x.c]
theorem ndL_eq {x y : Nd} : (ndL x = ndL y) ↔ x = y := by
  cases x; cases y; simp [ndL]
def beyond (n : Nat) (i : Int) : Bool := decide (i < 0) || decide ((n : Int) ≤ i)
def badNode (n : Nat) (x : Nd) : Bool := decide (x.k < 0) || decide (8 ≤ x.k) || !decide (plainN x = x) || (usesN x).any (beyond n)
theorem badNode_eq (n : Nat) (x : Nd) : badNode n x = (((decide (x.k < 0) || decide (8 ≤ x.k)) || !decide (ndL (plainN x) = ndL x)) || (usesN x).any (beyond n)) := by
  unfold badNode
  by_cases h : plainN x = x
  · simp [h]
  · have : ¬ ndL (plainN x) = ndL x := fun e => h (ndL_eq.1 e)
    simp [h, this]
def badPort (n : Nat) (p : Pt) : Bool := decide (p.bits.length = 0) || p.bits.any (beyond n)
def formlessN (n : Net) : Bool := n.nodes.any (badNode n.nodes.length) || (n.ins ++ n.outs).any (badPort n.nodes.length)
end Go.Vc
namespace Go.Vc
def hasName (l : List Pt) (m : ByteArray) : Bool := l.any fun p => decide (p.name = m)
def dupN (l : List Pt) : Bool := (List.range l.length).any fun i => hasName (l.take i) (l.getD i default).name
theorem mapGet_names (m : ByteArray) : ∀ l : List Pt, mapGet (l.map fun p => (p.name, AV.bool true)) m = if hasName l m then some (AV.bool true) else none
  | [] => rfl
  | p :: l => by
    simp only [List.map_cons, mapGet, hasName, List.any_cons]
    by_cases h : p.name = m
    · simp [h]
    · simp only [h, if_false, decide_false, Bool.false_or]
      exact mapGet_names m l
theorem range_any {n : Nat} {p : Nat → Bool} {i : Nat} (hi : i < n) (h : p i = true) : (List.range n).any p = true := by
  rw [List.any_eq_true]; exact ⟨i, by simpa using hi, h⟩
theorem range_none {n : Nat} {p : Nat → Bool} (h : ∀ i, i < n → p i = false) : (List.range n).any p = false := by
  rw [List.any_eq_false]
  intro x hx
  simp [h x (by simpa using hx)]
def bump (c : List Int) (i : Int) : List Int := c.set i.toNat (c.getD i.toNat 0 + 1)
def bumpAll (c : List Int) (l : List Int) : List Int := l.foldl bump c
theorem bump_len (c : List Int) (i : Int) : (bump c i).length = c.length := by simp [bump]
theorem bumpAll_len : ∀ (l : List Int) (c : List Int), (bumpAll c l).length = c.length
  | [], _ => rfl
  | i :: l, c => by rw [bumpAll, List.foldl_cons]; exact (bumpAll_len l (bump c i)).trans (bump_len c i)
theorem bump_le (c : List Int) (i : Int) (j : Nat) : c.getD j 0 ≤ (bump c i).getD j 0 ∧ (bump c i).getD j 0 ≤ c.getD j 0 + 1 := by
  simp only [bump, List.getD_eq_getElem?_getD, List.getElem?_set]
  by_cases h : i.toNat = j
  · subst h
    by_cases h2 : i.toNat < c.length
    · simp [h2]; omega
    · simp [h2]
  · simp [h]; omega
theorem bumpAll_le : ∀ (l : List Int) (c : List Int) (j : Nat), c.getD j 0 ≤ (bumpAll c l).getD j 0 ∧ (bumpAll c l).getD j 0 ≤ c.getD j 0 + l.length
  | [], c, j => by simp [bumpAll]
  | i :: l, c, j => by
    have h1 := bumpAll_le l (bump c i) j
    have h2 := bump_le c i j
    rw [bumpAll, List.foldl_cons]
    change _ ≤ (bumpAll (bump c i) l).getD j 0 ∧ (bumpAll (bump c i) l).getD j 0 ≤ _
    simp only [List.length_cons]
    omega
theorem bumpAll_snoc (c l : List Int) (i : Int) : bumpAll c (l ++ [i]) = bump (bumpAll c l) i := by simp [bumpAll]
theorem bumpAll_app (c l m : List Int) : bumpAll c (l ++ m) = bumpAll (bumpAll c l) m := by simp [bumpAll]
def inBits (n : Net) : List Int := (n.ins.map Pt.bits).flatten
def counts (n : Net) : List Int := bumpAll (List.replicate n.nodes.length 0) (inBits n)
def wantN (x : Nd) : Int := if x.k = 1 then 1 else 0
def homelessN (n : Net) : Bool := (List.range n.nodes.length).any fun i => !decide ((counts n).getD i 0 = wantN (n.nodes.getD i default))
def badCh (i : Nat) (c : Int) : Bool := !(decide (97 ≤ c) && decide (c ≤ 122)) && (decide ((i : Int) = 0) || (decide (c ≠ 95) && (decide (c < 48) || decide (57 < c))))
abbrev chA (b : ByteArray) (i : Nat) : Int := ((b.data.toList.getD i default).toNat : Int)
theorem size_data (b : ByteArray) : b.data.toList.length = b.size := rfl
theorem lookName (l : List Pt) (m : ByteArray) : (mapGet (l.map fun p => (p.name, AV.bool true)) m).getD (.v (.bool false)) = .bool (hasName l m) := by
  rw [mapGet_names]; cases hasName l m <;> rfl
def badName1 (b : ByteArray) : Bool := (b.toList == ({ data := #[] } : ByteArray).toList) || decide (20 < (b.size : Int)) || kws.any (fun k => b.toList == k.toList)
def nameN (b : ByteArray) : Bool := !badName1 b && !((List.range b.size).any fun i => badCh i (chA b i))
end Go.Vc
namespace Go.Vc
def preBits (n : Net) (i : Nat) : List Int := ((n.ins.take i).map Pt.bits).flatten
theorem preBits_succ {n : Net} {i : Nat} (h : i < n.ins.length) : preBits n (i + 1) = preBits n i ++ (n.ins.getD i default).bits := by
  unfold preBits
  rw [map_take_succ h, List.flatten_append]
  simp
theorem preBits_all (n : Net) : preBits n n.ins.length = inBits n := by unfold preBits inBits; rw [List.take_length]
theorem preBits_le (n : Net) : ∀ i, (preBits n i).length ≤ (inBits n).length := by
  intro i
  unfold preBits inBits
  rw [List.map_take]
  exact flat_take_le _ i
theorem mem_inBits {n : Net} {i j : Nat} (hi : i < n.ins.length) (hj : j < (n.ins.getD i default).bits.length) : (n.ins.getD i default).bits.getD j default ∈ inBits n := by
  unfold inBits
  rw [List.mem_flatten]
  exact ⟨_, List.mem_map.2 ⟨_, getD_mem hi, rfl⟩, getD_mem hj⟩
def c0 (n : Net) : List Int := List.replicate n.nodes.length 0
theorem c0_get (n : Net) (i : Nat) : (c0 n).getD i 0 = 0 := by
  unfold c0
  rw [List.getD_eq_getElem?_getD, List.getElem?_replicate]
  split <;> rfl
def midCnt (n : Net) (i j : Nat) : List Int := bumpAll (c0 n) (preBits n i ++ (n.ins.getD i default).bits.take j)
theorem midCnt_len (n : Net) (i j : Nat) : (midCnt n i j).length = n.nodes.length := by unfold midCnt; rw [bumpAll_len]; simp [c0]
theorem midCnt_bd {n : Net} {i j : Nat} (hi : i < n.ins.length) (x : Nat) : 0 ≤ (midCnt n i j).getD x 0 ∧ (midCnt n i j).getD x 0 ≤ (inBits n).length := by
  have h := bumpAll_le (preBits n i ++ (n.ins.getD i default).bits.take j) (c0 n) x
  have h2 := preBits_le n (i + 1)
  rw [preBits_succ hi] at h2
  rw [c0_get] at h
  unfold midCnt
  simp only [List.length_append, List.length_take] at h h2
  omega
theorem midCnt_succ {n : Net} {i j : Nat} (hj : j < (n.ins.getD i default).bits.length) : midCnt n i (j + 1) = bump (midCnt n i j) ((n.ins.getD i default).bits.getD j default) := by
  unfold midCnt
  rw [← bumpAll_snoc]
  congr 1
  have := map_take_succ (f := id) hj
  simp only [List.map_id, id] at this
  rw [this, List.append_assoc]
theorem midCnt_end {n : Net} {i j : Nat} (hi : i < n.ins.length) (hj : ¬ j < (n.ins.getD i default).bits.length) : midCnt n i j = bumpAll (c0 n) (preBits n (i + 1)) := by
  unfold midCnt; rw [preBits_succ hi, List.take_of_length_le (by omega)]
theorem bumpSet (c : List Int) (i : Int) : ((c.map eI).set i.toNat ((eI (c.getD i.toNat default)).set 0 (.int (c.getD i.toNat default + 1)))) = (bump c i).map eI := by
  unfold bump; rw [List.map_set]; rfl
theorem counts_len (n : Net) : (counts n).length = n.nodes.length := by unfold counts; rw [bumpAll_len]; simp
theorem counts_eq (n : Net) : counts n = bumpAll (c0 n) (preBits n n.ins.length) := by rw [preBits_all]; rfl
end Go.Vc

set_option linter.unusedVariables false
set_option maxRecDepth 100000
namespace Go.Proofs.Ytpcpdepfnoijoaa
open Go.Vc
theorem uses_2 {x : Nd} {s : St} {K : AV → St → Prop} (h : x.k = 2) (hk : K (ints [x.a]) s) : CallsA Try.prog 78 [.agg (ndR x)] s K := by
  refine callsA_of Try.func78 rfl rfl (Nat.le_of_ble_eq_true rfl) ?_
  refine vc_seq ?_
  refine vc_regionW (qm 3) [0, 1] rfl rfl ?_
  refine vq rfl rfl (q_box rfl rfl) ?_
  refine vq rfl rfl (q_assign rfl) ?_
  refine vendW ?_
  refine vc_seq ?_
  refine vc_seq ?_
  refine vc_regionW (qm 3) [0, 1] rfl rfl ?_
  refine vq rfl rfl (q_field fo89_0 rfl (Nat.le_of_ble_eq_true rfl)) ?_
  refine vq rfl rfl (q_load sc3 rfl) ?_
  refine vendW ?_
  refine vc_block ?_
  refine vc_seq ?_
  refine vc_seq ?_
  refine vc_regionW (qm 3) [0, 1] rfl rfl ?_
  refine vq rfl rfl (q_eq rfl rfl) ?_
  refine vq rfl rfl (q_assign rfl) ?_
  refine vendW ?_
  refine vc_condT rfl (by simp [h]) ?_
  refine vc_skip ?_
  refine vc_condT rfl (by simp [h]) ?_
  refine vc_seq ?_
  refine vc_regionW (qm 15) [0, 1, 2, 3] rfl rfl ?_
  refine vq rfl rfl (q_field fo89_1 rfl (Nat.le_of_ble_eq_true rfl)) ?_
  refine vq rfl rfl (q_load sc3 rfl) ?_
  refine vq rfl rfl (q_buildS sl40 zo3 (by decide) rfl rfl rfl rfl (by decide)) ?_
  refine vq rfl rfl (q_assign rfl) ?_
  refine vendW ?_
  refine vc_ret ?_
  exact ret1 rfl rfl (Le.refl _) (Cv.ale (Le.refl _) (ale_slx _ _)) hk
theorem uses_7 {x : Nd} {s : St} {K : AV → St → Prop} (h : x.k = 7) (hk : K (ints [x.a]) s) : CallsA Try.prog 78 [.agg (ndR x)] s K := by
  refine callsA_of Try.func78 rfl rfl (Nat.le_of_ble_eq_true rfl) ?_
  refine vc_seq ?_
  refine vc_regionW (qm 3) [0, 1] rfl rfl ?_
  refine vq rfl rfl (q_box rfl rfl) ?_
  refine vq rfl rfl (q_assign rfl) ?_
  refine vendW ?_
  refine vc_seq ?_
  refine vc_seq ?_
  refine vc_regionW (qm 3) [0, 1] rfl rfl ?_
  refine vq rfl rfl (q_field fo89_0 rfl (Nat.le_of_ble_eq_true rfl)) ?_
  refine vq rfl rfl (q_load sc3 rfl) ?_
  refine vendW ?_
  refine vc_block ?_
  refine vc_seq ?_
  refine vc_seq ?_
  refine vc_regionW (qm 3) [0, 1] rfl rfl ?_
  refine vq rfl rfl (q_eq rfl rfl) ?_
  refine vq rfl rfl (q_assign rfl) ?_
  refine vendW ?_
  refine vc_condF rfl (by simp [h]) ?_
  refine vc_regionW (qm 3) [0, 1] rfl rfl ?_
  refine vq rfl rfl (q_eq rfl rfl) ?_
  refine vq rfl rfl (q_assign rfl) ?_
  refine vendW ?_
  refine vc_condT rfl (by simp [h]) ?_
  refine vc_seq ?_
  refine vc_regionW (qm 15) [0, 1, 2, 3] rfl rfl ?_
  refine vq rfl rfl (q_field fo89_1 rfl (Nat.le_of_ble_eq_true rfl)) ?_
  refine vq rfl rfl (q_load sc3 rfl) ?_
  refine vq rfl rfl (q_buildS sl40 zo3 (by decide) rfl rfl rfl rfl (by decide)) ?_
  refine vq rfl rfl (q_assign rfl) ?_
  refine vendW ?_
  refine vc_ret ?_
  exact ret1 rfl rfl (Le.refl _) (Cv.ale (Le.refl _) (ale_slx _ _)) hk
theorem uses_3 {x : Nd} {s : St} {K : AV → St → Prop} (h : x.k = 3) (hk : K (ints [x.a, x.b]) s) : CallsA Try.prog 78 [.agg (ndR x)] s K := by
  refine callsA_of Try.func78 rfl rfl (Nat.le_of_ble_eq_true rfl) ?_
  refine vc_seq ?_
  refine vc_regionW (qm 3) [0, 1] rfl rfl ?_
  refine vq rfl rfl (q_box rfl rfl) ?_
  refine vq rfl rfl (q_assign rfl) ?_
  refine vendW ?_
  refine vc_seq ?_
  refine vc_seq ?_
  refine vc_regionW (qm 3) [0, 1] rfl rfl ?_
  refine vq rfl rfl (q_field fo89_0 rfl (Nat.le_of_ble_eq_true rfl)) ?_
  refine vq rfl rfl (q_load sc3 rfl) ?_
  refine vendW ?_
  refine vc_block ?_
  refine vc_seq ?_
  refine vc_seq ?_
  refine vc_regionW (qm 3) [0, 1] rfl rfl ?_
  refine vq rfl rfl (q_eq rfl rfl) ?_
  refine vq rfl rfl (q_assign rfl) ?_
  refine vendW ?_
  refine vc_condF rfl (by simp [h]) ?_
  refine vc_regionW (qm 3) [0, 1] rfl rfl ?_
  refine vq rfl rfl (q_eq rfl rfl) ?_
  refine vq rfl rfl (q_assign rfl) ?_
  refine vendW ?_
  refine vc_condF rfl (by simp [h]) ?_
  refine vc_seq ?_
  refine vc_seq ?_
  refine vc_regionW (qm 3) [0, 1] rfl rfl ?_
  refine vq rfl rfl (q_eq rfl rfl) ?_
  refine vq rfl rfl (q_assign rfl) ?_
  refine vendW ?_
  refine vc_condT rfl (by simp [h]) ?_
  refine vc_skip ?_
  refine vc_condT rfl (by simp [h]) ?_
  refine vc_seq ?_
  refine vc_regionW (qm 63) [0, 1, 2, 3, 4, 5] rfl rfl ?_
  refine vq rfl rfl (q_field fo89_1 rfl (Nat.le_of_ble_eq_true rfl)) ?_
  refine vq rfl rfl (q_load sc3 rfl) ?_
  refine vq rfl rfl (q_field fo89_2 rfl (Nat.le_of_ble_eq_true rfl)) ?_
  refine vq rfl rfl (q_load sc3 rfl) ?_
  refine vq rfl rfl (q_buildS sl40 zo3 (by decide) rfl rfl rfl rfl (by decide)) ?_
  refine vq rfl rfl (q_assign rfl) ?_
  refine vendW ?_
  refine vc_ret ?_
  exact ret1 rfl rfl (Le.refl _) (Cv.ale (Le.refl _) (ale_slx _ _)) hk
theorem uses_4 {x : Nd} {s : St} {K : AV → St → Prop} (h : x.k = 4) (hk : K (ints [x.a, x.b]) s) : CallsA Try.prog 78 [.agg (ndR x)] s K := by
  refine callsA_of Try.func78 rfl rfl (Nat.le_of_ble_eq_true rfl) ?_
  refine vc_seq ?_
  refine vc_regionW (qm 3) [0, 1] rfl rfl ?_
  refine vq rfl rfl (q_box rfl rfl) ?_
  refine vq rfl rfl (q_assign rfl) ?_
  refine vendW ?_
  refine vc_seq ?_
  refine vc_seq ?_
  refine vc_regionW (qm 3) [0, 1] rfl rfl ?_
  refine vq rfl rfl (q_field fo89_0 rfl (Nat.le_of_ble_eq_true rfl)) ?_
  refine vq rfl rfl (q_load sc3 rfl) ?_
  refine vendW ?_
  refine vc_block ?_
  refine vc_seq ?_
  refine vc_seq ?_
  refine vc_regionW (qm 3) [0, 1] rfl rfl ?_
  refine vq rfl rfl (q_eq rfl rfl) ?_
  refine vq rfl rfl (q_assign rfl) ?_
  refine vendW ?_
  refine vc_condF rfl (by simp [h]) ?_
  refine vc_regionW (qm 3) [0, 1] rfl rfl ?_
  refine vq rfl rfl (q_eq rfl rfl) ?_
  refine vq rfl rfl (q_assign rfl) ?_
  refine vendW ?_
  refine vc_condF rfl (by simp [h]) ?_
  refine vc_seq ?_
  refine vc_seq ?_
  refine vc_regionW (qm 3) [0, 1] rfl rfl ?_
  refine vq rfl rfl (q_eq rfl rfl) ?_
  refine vq rfl rfl (q_assign rfl) ?_
  refine vendW ?_
  refine vc_condF rfl (by simp [h]) ?_
  refine vc_seq ?_
  refine vc_regionW (qm 3) [0, 1] rfl rfl ?_
  refine vq rfl rfl (q_eq rfl rfl) ?_
  refine vq rfl rfl (q_assign rfl) ?_
  refine vendW ?_
  refine vc_condT rfl (by simp [h]) ?_
  refine vc_skip ?_
  refine vc_condT rfl (by simp [h]) ?_
  refine vc_seq ?_
  refine vc_regionW (qm 63) [0, 1, 2, 3, 4, 5] rfl rfl ?_
  refine vq rfl rfl (q_field fo89_1 rfl (Nat.le_of_ble_eq_true rfl)) ?_
  refine vq rfl rfl (q_load sc3 rfl) ?_
  refine vq rfl rfl (q_field fo89_2 rfl (Nat.le_of_ble_eq_true rfl)) ?_
  refine vq rfl rfl (q_load sc3 rfl) ?_
  refine vq rfl rfl (q_buildS sl40 zo3 (by decide) rfl rfl rfl rfl (by decide)) ?_
  refine vq rfl rfl (q_assign rfl) ?_
  refine vendW ?_
  refine vc_ret ?_
  exact ret1 rfl rfl (Le.refl _) (Cv.ale (Le.refl _) (ale_slx _ _)) hk
theorem uses_5 {x : Nd} {s : St} {K : AV → St → Prop} (h : x.k = 5) (hk : K (ints [x.a, x.b]) s) : CallsA Try.prog 78 [.agg (ndR x)] s K := by
  refine callsA_of Try.func78 rfl rfl (Nat.le_of_ble_eq_true rfl) ?_
  refine vc_seq ?_
  refine vc_regionW (qm 3) [0, 1] rfl rfl ?_
  refine vq rfl rfl (q_box rfl rfl) ?_
  refine vq rfl rfl (q_assign rfl) ?_
  refine vendW ?_
  refine vc_seq ?_
  refine vc_seq ?_
  refine vc_regionW (qm 3) [0, 1] rfl rfl ?_
  refine vq rfl rfl (q_field fo89_0 rfl (Nat.le_of_ble_eq_true rfl)) ?_
  refine vq rfl rfl (q_load sc3 rfl) ?_
  refine vendW ?_
  refine vc_block ?_
  refine vc_seq ?_
  refine vc_seq ?_
  refine vc_regionW (qm 3) [0, 1] rfl rfl ?_
  refine vq rfl rfl (q_eq rfl rfl) ?_
  refine vq rfl rfl (q_assign rfl) ?_
  refine vendW ?_
  refine vc_condF rfl (by simp [h]) ?_
  refine vc_regionW (qm 3) [0, 1] rfl rfl ?_
  refine vq rfl rfl (q_eq rfl rfl) ?_
  refine vq rfl rfl (q_assign rfl) ?_
  refine vendW ?_
  refine vc_condF rfl (by simp [h]) ?_
  refine vc_seq ?_
  refine vc_seq ?_
  refine vc_regionW (qm 3) [0, 1] rfl rfl ?_
  refine vq rfl rfl (q_eq rfl rfl) ?_
  refine vq rfl rfl (q_assign rfl) ?_
  refine vendW ?_
  refine vc_condF rfl (by simp [h]) ?_
  refine vc_seq ?_
  refine vc_regionW (qm 3) [0, 1] rfl rfl ?_
  refine vq rfl rfl (q_eq rfl rfl) ?_
  refine vq rfl rfl (q_assign rfl) ?_
  refine vendW ?_
  refine vc_condF rfl (by simp [h]) ?_
  refine vc_regionW (qm 3) [0, 1] rfl rfl ?_
  refine vq rfl rfl (q_eq rfl rfl) ?_
  refine vq rfl rfl (q_assign rfl) ?_
  refine vendW ?_
  refine vc_condT rfl (by simp [h]) ?_
  refine vc_seq ?_
  refine vc_regionW (qm 63) [0, 1, 2, 3, 4, 5] rfl rfl ?_
  refine vq rfl rfl (q_field fo89_1 rfl (Nat.le_of_ble_eq_true rfl)) ?_
  refine vq rfl rfl (q_load sc3 rfl) ?_
  refine vq rfl rfl (q_field fo89_2 rfl (Nat.le_of_ble_eq_true rfl)) ?_
  refine vq rfl rfl (q_load sc3 rfl) ?_
  refine vq rfl rfl (q_buildS sl40 zo3 (by decide) rfl rfl rfl rfl (by decide)) ?_
  refine vq rfl rfl (q_assign rfl) ?_
  refine vendW ?_
  refine vc_ret ?_
  exact ret1 rfl rfl (Le.refl _) (Cv.ale (Le.refl _) (ale_slx _ _)) hk
theorem uses_6 {x : Nd} {s : St} {K : AV → St → Prop} (h : x.k = 6) (hk : K (ints [x.a, x.b, x.c]) s) : CallsA Try.prog 78 [.agg (ndR x)] s K := by
  refine callsA_of Try.func78 rfl rfl (Nat.le_of_ble_eq_true rfl) ?_
  refine vc_seq ?_
  refine vc_regionW (qm 3) [0, 1] rfl rfl ?_
  refine vq rfl rfl (q_box rfl rfl) ?_
  refine vq rfl rfl (q_assign rfl) ?_
  refine vendW ?_
  refine vc_seq ?_
  refine vc_seq ?_
  refine vc_regionW (qm 3) [0, 1] rfl rfl ?_
  refine vq rfl rfl (q_field fo89_0 rfl (Nat.le_of_ble_eq_true rfl)) ?_
  refine vq rfl rfl (q_load sc3 rfl) ?_
  refine vendW ?_
  refine vc_block ?_
  refine vc_seq ?_
  refine vc_seq ?_
  refine vc_regionW (qm 3) [0, 1] rfl rfl ?_
  refine vq rfl rfl (q_eq rfl rfl) ?_
  refine vq rfl rfl (q_assign rfl) ?_
  refine vendW ?_
  refine vc_condF rfl (by simp [h]) ?_
  refine vc_regionW (qm 3) [0, 1] rfl rfl ?_
  refine vq rfl rfl (q_eq rfl rfl) ?_
  refine vq rfl rfl (q_assign rfl) ?_
  refine vendW ?_
  refine vc_condF rfl (by simp [h]) ?_
  refine vc_seq ?_
  refine vc_seq ?_
  refine vc_regionW (qm 3) [0, 1] rfl rfl ?_
  refine vq rfl rfl (q_eq rfl rfl) ?_
  refine vq rfl rfl (q_assign rfl) ?_
  refine vendW ?_
  refine vc_condF rfl (by simp [h]) ?_
  refine vc_seq ?_
  refine vc_regionW (qm 3) [0, 1] rfl rfl ?_
  refine vq rfl rfl (q_eq rfl rfl) ?_
  refine vq rfl rfl (q_assign rfl) ?_
  refine vendW ?_
  refine vc_condF rfl (by simp [h]) ?_
  refine vc_regionW (qm 3) [0, 1] rfl rfl ?_
  refine vq rfl rfl (q_eq rfl rfl) ?_
  refine vq rfl rfl (q_assign rfl) ?_
  refine vendW ?_
  refine vc_condF rfl (by simp [h]) ?_
  refine vc_seq ?_
  refine vc_regionW (qm 3) [0, 1] rfl rfl ?_
  refine vq rfl rfl (q_eq rfl rfl) ?_
  refine vq rfl rfl (q_assign rfl) ?_
  refine vendW ?_
  refine vc_condT rfl (by simp [h]) ?_
  refine vc_seq ?_
  refine vc_regionW (qm 255) [0, 1, 2, 3, 4, 5, 6, 7] rfl rfl ?_
  refine vq rfl rfl (q_field fo89_1 rfl (Nat.le_of_ble_eq_true rfl)) ?_
  refine vq rfl rfl (q_load sc3 rfl) ?_
  refine vq rfl rfl (q_field fo89_2 rfl (Nat.le_of_ble_eq_true rfl)) ?_
  refine vq rfl rfl (q_load sc3 rfl) ?_
  refine vq rfl rfl (q_field fo89_3 rfl (Nat.le_of_ble_eq_true rfl)) ?_
  refine vq rfl rfl (q_load sc3 rfl) ?_
  refine vq rfl rfl (q_buildS sl40 zo3 (by decide) rfl rfl rfl rfl (by decide)) ?_
  refine vq rfl rfl (q_assign rfl) ?_
  refine vendW ?_
  refine vc_ret ?_
  exact ret1 rfl rfl (Le.refl _) (Cv.ale (Le.refl _) (ale_slx _ _)) hk
theorem uses_o {x : Nd} {s : St} {K : AV → St → Prop} (h : x.k ≠ 2 ∧ x.k ≠ 7 ∧ x.k ≠ 3 ∧ x.k ≠ 4 ∧ x.k ≠ 5 ∧ x.k ≠ 6) (hk : K (ints []) s) : CallsA Try.prog 78 [.agg (ndR x)] s K := by
  refine callsA_of Try.func78 rfl rfl (Nat.le_of_ble_eq_true rfl) ?_
  refine vc_seq ?_
  refine vc_regionW (qm 3) [0, 1] rfl rfl ?_
  refine vq rfl rfl (q_box rfl rfl) ?_
  refine vq rfl rfl (q_assign rfl) ?_
  refine vendW ?_
  refine vc_seq ?_
  refine vc_seq ?_
  refine vc_regionW (qm 3) [0, 1] rfl rfl ?_
  refine vq rfl rfl (q_field fo89_0 rfl (Nat.le_of_ble_eq_true rfl)) ?_
  refine vq rfl rfl (q_load sc3 rfl) ?_
  refine vendW ?_
  refine vc_block ?_
  refine vc_seq ?_
  refine vc_seq ?_
  refine vc_regionW (qm 3) [0, 1] rfl rfl ?_
  refine vq rfl rfl (q_eq rfl rfl) ?_
  refine vq rfl rfl (q_assign rfl) ?_
  refine vendW ?_
  refine vc_condF rfl (by simp [h]) ?_
  refine vc_regionW (qm 3) [0, 1] rfl rfl ?_
  refine vq rfl rfl (q_eq rfl rfl) ?_
  refine vq rfl rfl (q_assign rfl) ?_
  refine vendW ?_
  refine vc_condF rfl (by simp [h]) ?_
  refine vc_seq ?_
  refine vc_seq ?_
  refine vc_regionW (qm 3) [0, 1] rfl rfl ?_
  refine vq rfl rfl (q_eq rfl rfl) ?_
  refine vq rfl rfl (q_assign rfl) ?_
  refine vendW ?_
  refine vc_condF rfl (by simp [h]) ?_
  refine vc_seq ?_
  refine vc_regionW (qm 3) [0, 1] rfl rfl ?_
  refine vq rfl rfl (q_eq rfl rfl) ?_
  refine vq rfl rfl (q_assign rfl) ?_
  refine vendW ?_
  refine vc_condF rfl (by simp [h]) ?_
  refine vc_regionW (qm 3) [0, 1] rfl rfl ?_
  refine vq rfl rfl (q_eq rfl rfl) ?_
  refine vq rfl rfl (q_assign rfl) ?_
  refine vendW ?_
  refine vc_condF rfl (by simp [h]) ?_
  refine vc_seq ?_
  refine vc_regionW (qm 3) [0, 1] rfl rfl ?_
  refine vq rfl rfl (q_eq rfl rfl) ?_
  refine vq rfl rfl (q_assign rfl) ?_
  refine vendW ?_
  refine vc_condF rfl (by simp [h]) ?_
  refine vc_skip ?_
  refine vc_seq ?_
  refine vc_regionW (qm 1) [0] rfl rfl ?_
  refine vq rfl rfl (q_assign rfl) ?_
  refine vendW ?_
  refine vc_ret ?_
  exact ret1 rfl rfl (Le.refl _) (Cv.ale (Le.refl _) (ale_nil _)) hk
theorem uses {x : Nd} {s : St} {K : AV → St → Prop} (hk : K (ints (usesN x)) s) : CallsA Try.prog 78 [.agg (ndR x)] s K := by
  by_cases h2 : x.k = 2
  · exact uses_2 h2 (by simpa [usesN, h2] using hk)
  by_cases h7 : x.k = 7
  · exact uses_7 h7 (by simpa [usesN, h7] using hk)
  by_cases h3 : x.k = 3
  · exact uses_3 h3 (by simpa [usesN, h3] using hk)
  by_cases h4 : x.k = 4
  · exact uses_4 h4 (by simpa [usesN, h4] using hk)
  by_cases h5 : x.k = 5
  · exact uses_5 h5 (by simpa [usesN, h5] using hk)
  by_cases h6 : x.k = 6
  · exact uses_6 h6 (by simpa [usesN, h6] using hk)
  exact uses_o ⟨h2, h7, h3, h4, h5, h6⟩ (by simpa [usesN, h2, h7, h3, h4, h5, h6] using hk)
theorem cloneI {l : List Int} {s : St} {K : AV → St → Prop} (hl : l.length < 2^40) (hk : K (.sl 1 (l.map eI)) s) : CallsA Try.prog 54 [.sl 1 (l.map eI)] s K := by
  refine callsA_of Try.func54 rfl rfl (Nat.le_of_ble_eq_true rfl) ?_
  refine vc_seq ?_
  refine vc_regionW (qm 1) [0] rfl rfl ?_
  refine vq rfl rfl (q_assign rfl) ?_
  refine vendW ?_
  refine vc_seq ?_
  refine vc_seq ?_
  refine vc_regionW (qm 1) [0, 1] rfl rfl ?_
  refine vq rfl rfl (q_move rfl) ?_
  refine ve rfl rfl (e_eqnil sl40 rfl (fun p hp => ?_))
  refine vendW ?_
  refine vc_cond rfl (fun h => ?_) (fun h => ?_)
  ·
    refine vc_seq ?_
    refine vc_regionW (qm 1) [0] rfl rfl ?_
    refine vq rfl rfl (q_assign rfl) ?_
    refine vendW ?_
    refine vc_ret ?_
    have e := hp h
    have e2 : l.map eI = [] := e
    rw [e2] at hk
    exact ret1 rfl rfl (Le.refl _) (Cv.ale (Le.refl _) (ale_nil _)) hk
  refine vc_skip ?_
  refine vc_seq ?_
  refine vc_regionW (qm 11) [0, 1, 2, 3] rfl rfl ?_
  refine vq rfl rfl (q_buildS sl40 zo3 (by decide) rfl rfl rfl rfl (by decide)) ?_
  refine vq rfl rfl (q_move rfl) ?_
  refine ve rfl rfl (e_append sl40 zo3 rfl rfl (OwnSt.slx _ _ _) (SrcOK.sl 1 _) (rowsC1_ints _) (by simp [maxLen_eq]; omega) (fun x s1 ho => ?_))
  refine vq rfl rfl (q_assign rfl) ?_
  refine vendW ?_
  refine vc_ret ?_
  exact ret1 rfl rfl ho.le ho.frz hk
theorem cloneN {l : List Nd} {s : St} {K : AV → St → Prop} (hl : l.length < 2^40) (hk : K (.sl 4 (l.map ndR)) s) : CallsA Try.prog 61 [.sl 4 (l.map ndR)] s K := by
  refine callsA_of Try.func61 rfl rfl (Nat.le_of_ble_eq_true rfl) ?_
  refine vc_seq ?_
  refine vc_regionW (qm 1) [0] rfl rfl ?_
  refine vq rfl rfl (q_assign rfl) ?_
  refine vendW ?_
  refine vc_seq ?_
  refine vc_seq ?_
  refine vc_regionW (qm 1) [0, 1] rfl rfl ?_
  refine vq rfl rfl (q_move rfl) ?_
  refine ve rfl rfl (e_eqnil sl22 rfl (fun p hp => ?_))
  refine vendW ?_
  refine vc_cond rfl (fun h => ?_) (fun h => ?_)
  ·
    refine vc_seq ?_
    refine vc_regionW (qm 1) [0] rfl rfl ?_
    refine vq rfl rfl (q_assign rfl) ?_
    refine vendW ?_
    refine vc_ret ?_
    have e := hp h
    have e2 : l.map ndR = [] := e
    rw [e2] at hk
    exact ret1 rfl rfl (Le.refl _) (Cv.ale (Le.refl _) (ale_nil _)) hk
  refine vc_skip ?_
  refine vc_seq ?_
  refine vc_regionW (qm 11) [0, 1, 2, 3] rfl rfl ?_
  refine vq rfl rfl (q_buildS sl22 zo89 (by decide) rfl rfl rfl rfl (by decide)) ?_
  refine vq rfl rfl (q_move rfl) ?_
  refine ve rfl rfl (e_append sl22 zo89 rfl rfl (OwnSt.slx _ _ _) (SrcOK.sl 4 _) (rowsC1_map (fun _ => rfl) _) (by simp [maxLen_eq]; omega) (fun x s1 ho => ?_))
  refine vq rfl rfl (q_assign rfl) ?_
  refine vendW ?_
  refine vc_ret ?_
  exact ret1 rfl rfl ho.le ho.frz hk
theorem indexP {l : List Pt} {p : Pt → Bool} {g : Nat} {fs cs : List AV} {s : St} {K : AV → St → Prop} (hl : l.length < 2^50) (hgo : isGo Try.prog g = true) (hp : ∀ i, i < l.length → ∀ K : AV → St → Prop, K (.bool (p (l.getD i default))) s → CallsA Try.prog g (fs ++ ([.agg (ptR (l.getD i default))] ++ cs)) s K) (hk : ∀ r : Int, (0 ≤ r ↔ l.any p = true) → K (.int r) s) : CallsA Try.prog 168 [.sl 2 (l.map ptR), .clo g fs cs] s K := by
  refine callsA_of Try.func168 rfl rfl (Nat.le_of_ble_eq_true rfl) ?_
  refine vc_seq ?_
  refine vc_regionW (qm 1) [0] rfl rfl ?_
  refine vq rfl rfl (q_assign rfl) ?_
  refine vendW ?_
  refine vc_seq ?_
  refine vc_seq ?_
  refine vc_regionW (qm 7) [0, 1, 2] rfl rfl ?_
  refine vq rfl rfl (q_move rfl) ?_
  refine vq rfl rfl (q_len sl23 rfl (by first | exact lenM | rfl)) ?_
  refine vq rfl rfl (q_move rfl) ?_
  refine vendW ?_
  refine vc_block ?_
  refine vc_loopS (α := Nat) [4, 5, 8, 9, 10, 11, 12, 13, 14, 15, 16, 17, 18] (fun i => [(8, .int (i : Int))]) (fun i => s) (fun i => i ≤ l.length ∧ ∀ j, j < i → p (l.getD j default) = false) (fun i => l.length - i) 0 ⟨by simp, by simp⟩ rfl ⟨rfl, trivial⟩ (fun _ => rfl) ?_
  intro i hok
  refine vc_seq ?_
  refine vc_regionW (qm 1) [0] rfl rfl ?_
  refine vq rfl rfl (q_lt rfl rfl) ?_
  refine vendW ?_
  refine vc_seq ?_
  refine vc_condD rfl (fun h => ?_) (fun h => ?_)
  ·
    refine vc_skip ?_
    refine vc_seq ?_
    refine vc_block ?_
    refine vc_seq ?_
    refine vc_regionW (qm 3) [0, 1] rfl rfl ?_
    refine vq rfl rfl (q_move rfl) ?_
    refine vq rfl rfl (q_assign rfl) ?_
    refine vendW ?_
    refine vc_seq ?_
    refine vc_regionW (qm 31) [0, 1, 2, 3, 4, 5] rfl rfl ?_
    refine vq rfl rfl (q_move rfl) ?_
    refine vq rfl rfl (q_move rfl) ?_
    refine vq rfl rfl (q_move rfl) ?_
    refine vq rfl rfl (q_index sl23 rfl rfl (by omega) (by first | exact nthI (by omega) | exact nthM (by omega))) ?_
    refine vq rfl rfl (q_loadA ag91 rfl rfl) ?_
    refine ve rfl rfl (e_call hgo rfl rfl (hp i (by omega) _ ?_))
    refine vendW ?_
    refine vc_cond rfl (fun h2 => ?_) (fun h2 => ?_)
    ·
      refine vc_seq ?_
      refine vc_regionW (qm 3) [0, 1] rfl rfl ?_
      refine vq rfl rfl (q_move rfl) ?_
      refine vq rfl rfl (q_assign rfl) ?_
      refine vendW ?_
      refine vc_ret ?_
      exact ret1 rfl rfl (Le.refl _) (Cv.le (Le.refl _) _) (hk _ ⟨fun _ => any_some (by omega) h2, fun _ => by omega⟩)
    refine vc_skip ?_
    refine vc_regionW (qm 3) [0, 1] rfl rfl ?_
    refine vq rfl rfl (q_add rfl rfl (w64 (by omega))) ?_
    refine vq rfl rfl (q_move rfl) ?_
    refine vendW ?_
    refine ⟨i + 1, ⟨by omega, fun j hj => by by_cases e : j = i; (· subst e; exact h2); (· exact hok.2 j (by omega))⟩, by omega, ?_, ⟨rfl, trivial⟩, rfl⟩
    repeat (first | exact Same.refl | refine Same.upd rfl ?_ | refine Same.drop rfl ?_)
  refine vc_exit ?_
  refine vc_seq ?_
  refine vc_regionW (qm 1) [0] rfl rfl ?_
  refine vq rfl rfl (q_assign rfl) ?_
  refine vendW ?_
  refine vc_ret ?_
  exact ret1 rfl rfl (Le.refl _) (Cv.le (Le.refl _) _) (hk _ ⟨fun e => by omega, fun e => by rw [any_none fun j hj => hok.2 j (by omega)] at e; cases e⟩)
theorem containsP {l : List Pt} {p : Pt → Bool} {g : Nat} {fs cs : List AV} {s : St} {K : AV → St → Prop} (hl : l.length < 2^50) (hgo : isGo Try.prog g = true) (hp : ∀ i, i < l.length → ∀ K : AV → St → Prop, K (.bool (p (l.getD i default))) s → CallsA Try.prog g (fs ++ ([.agg (ptR (l.getD i default))] ++ cs)) s K) (hk : K (.bool (l.any p)) s) : CallsA Try.prog 126 [.sl 2 (l.map ptR), .clo g fs cs] s K := by
  refine callsA_of Try.func126 rfl rfl (Nat.le_of_ble_eq_true rfl) ?_
  refine vc_seq ?_
  refine vc_regionW (qm 1) [0] rfl rfl ?_
  refine vq rfl rfl (q_assign rfl) ?_
  refine vendW ?_
  refine vc_seq ?_
  refine vc_regionW (qm 27) [0, 1, 2, 3, 4] rfl rfl ?_
  refine vq rfl rfl (q_move rfl) ?_
  refine vq rfl rfl (q_move rfl) ?_
  refine ve rfl rfl (e_callF go168 rfl (indexP hl hgo hp (fun r hr => ?_)))
  refine vq rfl rfl (q_ge rfl rfl) ?_
  refine vq rfl rfl (q_assign rfl) ?_
  refine vendW ?_
  refine vc_ret ?_
  have e : decide ((0 : Int) ≤ r) = l.any p := by by_cases hh : l.any p = true; (· rw [hh]; simp [hr.2 hh]); (· rw [Bool.not_eq_true] at hh; rw [hh]; simp; have := mt hr.1 (by rw [hh]; simp); omega)
  rw [← e] at hk
  exact ret1 rfl rfl (Le.refl _) (Cv.le (Le.refl _) _) hk
theorem indexI {l : List Int} {p : Int → Bool} {g : Nat} {fs cs : List AV} {s : St} {K : AV → St → Prop} (hl : l.length < 2^50) (hgo : isGo Try.prog g = true) (hp : ∀ i, i < l.length → ∀ K : AV → St → Prop, K (.bool (p (l.getD i default))) s → CallsA Try.prog g (fs ++ ([.int (l.getD i default)] ++ cs)) s K) (hk : ∀ r : Int, (0 ≤ r ↔ l.any p = true) → K (.int r) s) : CallsA Try.prog 183 [.sl 1 (l.map eI), .clo g fs cs] s K := by
  refine callsA_of Try.func183 rfl rfl (Nat.le_of_ble_eq_true rfl) ?_
  refine vc_seq ?_
  refine vc_regionW (qm 1) [0] rfl rfl ?_
  refine vq rfl rfl (q_assign rfl) ?_
  refine vendW ?_
  refine vc_seq ?_
  refine vc_seq ?_
  refine vc_regionW (qm 7) [0, 1, 2] rfl rfl ?_
  refine vq rfl rfl (q_move rfl) ?_
  refine vq rfl rfl (q_len sl40 rfl (by first | exact lenM | rfl)) ?_
  refine vq rfl rfl (q_move rfl) ?_
  refine vendW ?_
  refine vc_block ?_
  refine vc_loopS (α := Nat) [4, 5, 8, 9, 10, 11, 12, 13, 14, 15, 16, 17, 18] (fun i => [(8, .int (i : Int))]) (fun i => s) (fun i => i ≤ l.length ∧ ∀ j, j < i → p (l.getD j default) = false) (fun i => l.length - i) 0 ⟨by simp, by simp⟩ rfl ⟨rfl, trivial⟩ (fun _ => rfl) ?_
  intro i hok
  refine vc_seq ?_
  refine vc_regionW (qm 1) [0] rfl rfl ?_
  refine vq rfl rfl (q_lt rfl rfl) ?_
  refine vendW ?_
  refine vc_seq ?_
  refine vc_condD rfl (fun h => ?_) (fun h => ?_)
  ·
    refine vc_skip ?_
    refine vc_seq ?_
    refine vc_block ?_
    refine vc_seq ?_
    refine vc_regionW (qm 3) [0, 1] rfl rfl ?_
    refine vq rfl rfl (q_move rfl) ?_
    refine vq rfl rfl (q_assign rfl) ?_
    refine vendW ?_
    refine vc_seq ?_
    refine vc_regionW (qm 31) [0, 1, 2, 3, 4, 5] rfl rfl ?_
    refine vq rfl rfl (q_move rfl) ?_
    refine vq rfl rfl (q_move rfl) ?_
    refine vq rfl rfl (q_move rfl) ?_
    refine vq rfl rfl (q_index sl40 rfl rfl (by omega) (by first | exact nthI (by omega) | exact nthM (by omega))) ?_
    refine vq rfl rfl (q_load sc3 rfl) ?_
    refine ve rfl rfl (e_call hgo rfl rfl (hp i (by omega) _ ?_))
    refine vendW ?_
    refine vc_cond rfl (fun h2 => ?_) (fun h2 => ?_)
    ·
      refine vc_seq ?_
      refine vc_regionW (qm 3) [0, 1] rfl rfl ?_
      refine vq rfl rfl (q_move rfl) ?_
      refine vq rfl rfl (q_assign rfl) ?_
      refine vendW ?_
      refine vc_ret ?_
      exact ret1 rfl rfl (Le.refl _) (Cv.le (Le.refl _) _) (hk _ ⟨fun _ => any_some (by omega) h2, fun _ => by omega⟩)
    refine vc_skip ?_
    refine vc_regionW (qm 3) [0, 1] rfl rfl ?_
    refine vq rfl rfl (q_add rfl rfl (w64 (by omega))) ?_
    refine vq rfl rfl (q_move rfl) ?_
    refine vendW ?_
    refine ⟨i + 1, ⟨by omega, fun j hj => by by_cases e : j = i; (· subst e; exact h2); (· exact hok.2 j (by omega))⟩, by omega, ?_, ⟨rfl, trivial⟩, rfl⟩
    repeat (first | exact Same.refl | refine Same.upd rfl ?_ | refine Same.drop rfl ?_)
  refine vc_exit ?_
  refine vc_seq ?_
  refine vc_regionW (qm 1) [0] rfl rfl ?_
  refine vq rfl rfl (q_assign rfl) ?_
  refine vendW ?_
  refine vc_ret ?_
  exact ret1 rfl rfl (Le.refl _) (Cv.le (Le.refl _) _) (hk _ ⟨fun e => by omega, fun e => by rw [any_none fun j hj => hok.2 j (by omega)] at e; cases e⟩)
theorem containsI {l : List Int} {p : Int → Bool} {g : Nat} {fs cs : List AV} {s : St} {K : AV → St → Prop} (hl : l.length < 2^50) (hgo : isGo Try.prog g = true) (hp : ∀ i, i < l.length → ∀ K : AV → St → Prop, K (.bool (p (l.getD i default))) s → CallsA Try.prog g (fs ++ ([.int (l.getD i default)] ++ cs)) s K) (hk : K (.bool (l.any p)) s) : CallsA Try.prog 166 [.sl 1 (l.map eI), .clo g fs cs] s K := by
  refine callsA_of Try.func166 rfl rfl (Nat.le_of_ble_eq_true rfl) ?_
  refine vc_seq ?_
  refine vc_regionW (qm 1) [0] rfl rfl ?_
  refine vq rfl rfl (q_assign rfl) ?_
  refine vendW ?_
  refine vc_seq ?_
  refine vc_regionW (qm 27) [0, 1, 2, 3, 4] rfl rfl ?_
  refine vq rfl rfl (q_move rfl) ?_
  refine vq rfl rfl (q_move rfl) ?_
  refine ve rfl rfl (e_callF go183 rfl (indexI hl hgo hp (fun r hr => ?_)))
  refine vq rfl rfl (q_ge rfl rfl) ?_
  refine vq rfl rfl (q_assign rfl) ?_
  refine vendW ?_
  refine vc_ret ?_
  have e : decide ((0 : Int) ≤ r) = l.any p := by by_cases hh : l.any p = true; (· rw [hh]; simp [hr.2 hh]); (· rw [Bool.not_eq_true] at hh; rw [hh]; simp; have := mt hr.1 (by rw [hh]; simp); omega)
  rw [← e] at hk
  exact ret1 rfl rfl (Le.refl _) (Cv.le (Le.refl _) _) hk
def eS (b : ByteArray) : List AV := [.v (.string b)]
theorem indexS {l : List ByteArray} {b : ByteArray} {s : St} {K : AV → St → Prop} (hl : l.length < 2^50) (hk : ∀ r : Int, (0 ≤ r ↔ l.any (fun k => b.toList == k.toList) = true) → K (.int r) s) : CallsA Try.prog 185 [.sl 1 (l.map eS), .v (.string b)] s K := by
  refine callsA_of Try.func185 rfl rfl (Nat.le_of_ble_eq_true rfl) ?_
  refine vc_seq ?_
  refine vc_regionW (qm 1) [0] rfl rfl ?_
  refine vq rfl rfl (q_assign rfl) ?_
  refine vendW ?_
  refine vc_seq ?_
  refine vc_seq ?_
  refine vc_regionW (qm 7) [0, 1, 2] rfl rfl ?_
  refine vq rfl rfl (q_move rfl) ?_
  refine vq rfl rfl (q_len sl219 rfl (by first | exact lenM | rfl)) ?_
  refine vq rfl rfl (q_move rfl) ?_
  refine vendW ?_
  refine vc_block ?_
  refine vc_loopS (α := Nat) [4, 5, 8, 9, 10, 11, 12, 13, 14, 15, 16, 17, 18] (fun i => [(8, .int (i : Int))]) (fun i => s) (fun i => i ≤ l.length ∧ ∀ j, j < i → (b.toList == (l.getD j default).toList) = false) (fun i => l.length - i) 0 ⟨by simp, by simp⟩ rfl ⟨rfl, trivial⟩ (fun _ => rfl) ?_
  intro i hok
  refine vc_seq ?_
  refine vc_regionW (qm 1) [0] rfl rfl ?_
  refine vq rfl rfl (q_lt rfl rfl) ?_
  refine vendW ?_
  refine vc_seq ?_
  refine vc_condD rfl (fun h => ?_) (fun h => ?_)
  ·
    refine vc_skip ?_
    refine vc_seq ?_
    refine vc_block ?_
    refine vc_seq ?_
    refine vc_regionW (qm 3) [0, 1] rfl rfl ?_
    refine vq rfl rfl (q_move rfl) ?_
    refine vq rfl rfl (q_assign rfl) ?_
    refine vendW ?_
    refine vc_seq ?_
    refine vc_regionW (qm 63) [0, 1, 2, 3, 4, 5] rfl rfl ?_
    refine vq rfl rfl (q_move rfl) ?_
    refine vq rfl rfl (q_move rfl) ?_
    refine vq rfl rfl (q_move rfl) ?_
    refine vq rfl rfl (q_index sl219 rfl rfl (by omega) (by first | exact nthI (by omega) | exact nthM (by omega))) ?_
    refine vq rfl rfl (q_load sc9 rfl) ?_
    refine vq rfl rfl (q_eqS rfl rfl) ?_
    refine vendW ?_
    refine vc_cond rfl (fun h2 => ?_) (fun h2 => ?_)
    ·
      refine vc_seq ?_
      refine vc_regionW (qm 3) [0, 1] rfl rfl ?_
      refine vq rfl rfl (q_move rfl) ?_
      refine vq rfl rfl (q_assign rfl) ?_
      refine vendW ?_
      refine vc_ret ?_
      exact ret1 rfl rfl (Le.refl _) (Cv.le (Le.refl _) _) (hk _ ⟨fun _ => any_some (by omega) h2, fun _ => by omega⟩)
    refine vc_skip ?_
    refine vc_regionW (qm 3) [0, 1] rfl rfl ?_
    refine vq rfl rfl (q_add rfl rfl (w64 (by omega))) ?_
    refine vq rfl rfl (q_move rfl) ?_
    refine vendW ?_
    refine ⟨i + 1, ⟨by omega, fun j hj => by by_cases e : j = i; (· subst e; exact h2); (· exact hok.2 j (by omega))⟩, by omega, ?_, ⟨rfl, trivial⟩, rfl⟩
    repeat (first | exact Same.refl | refine Same.upd rfl ?_ | refine Same.drop rfl ?_)
  refine vc_exit ?_
  refine vc_seq ?_
  refine vc_regionW (qm 1) [0] rfl rfl ?_
  refine vq rfl rfl (q_assign rfl) ?_
  refine vendW ?_
  refine vc_ret ?_
  exact ret1 rfl rfl (Le.refl _) (Cv.le (Le.refl _) _) (hk _ ⟨fun e => by omega, fun e => by rw [any_none fun j hj => hok.2 j (by omega)] at e; cases e⟩)
theorem containsS {l : List ByteArray} {b : ByteArray} {s : St} {K : AV → St → Prop} (hl : l.length < 2^50) (hk : K (.bool (l.any (fun k => b.toList == k.toList))) s) : CallsA Try.prog 170 [.sl 1 (l.map eS), .v (.string b)] s K := by
  refine callsA_of Try.func170 rfl rfl (Nat.le_of_ble_eq_true rfl) ?_
  refine vc_seq ?_
  refine vc_regionW (qm 1) [0] rfl rfl ?_
  refine vq rfl rfl (q_assign rfl) ?_
  refine vendW ?_
  refine vc_seq ?_
  refine vc_regionW (qm 27) [0, 1, 2, 3, 4] rfl rfl ?_
  refine vq rfl rfl (q_move rfl) ?_
  refine vq rfl rfl (q_move rfl) ?_
  refine ve rfl rfl (e_callF go185 rfl (indexS hl (fun r hr => ?_)))
  refine vq rfl rfl (q_ge rfl rfl) ?_
  refine vq rfl rfl (q_assign rfl) ?_
  refine vendW ?_
  refine vc_ret ?_
  have e : decide ((0 : Int) ≤ r) = l.any (fun k => b.toList == k.toList) := by by_cases hh : l.any (fun k => b.toList == k.toList) = true; (· rw [hh]; simp [hr.2 hh]); (· rw [Bool.not_eq_true] at hh; rw [hh]; simp; have := mt hr.1 (by rw [hh]; simp); omega)
  rw [← e] at hk
  exact ret1 rfl rfl (Le.refl _) (Cv.le (Le.refl _) _) hk
theorem keywords {s : St} {K : AV → St → Prop} (hk : K (.sl 1 (kws.map eS)) s) : CallsA Try.prog 171 [] s K := by
  refine callsA_of Try.func171 rfl rfl (Nat.le_of_ble_eq_true rfl) ?_
  refine vc_seq ?_
  refine vc_regionW (qm 1) [0] rfl rfl ?_
  refine vq rfl rfl (q_assign rfl) ?_
  refine vendW ?_
  refine vc_seq ?_
  refine vc_regionW (qm 3) [0, 1] rfl rfl ?_
  refine vq rfl rfl (q_buildS sl219 zo9 (by decide) rfl rfl rfl rfl (by decide)) ?_
  refine vq rfl rfl (q_assign rfl) ?_
  refine vendW ?_
  refine vc_ret ?_
  exact ret1 rfl rfl (Le.refl _) (Cv.ale (Le.refl _) (ale_slx _ _)) hk
theorem maxI {l : List Int} {s : St} {K : AV → St → Prop} (h0 : 0 < l.length) (hl : l.length < 2^50) (hk : K (.int (maxL l l.length)) s) : CallsA Try.prog 134 [ints l] s K := by
  refine callsA_of Try.func134 rfl rfl (Nat.le_of_ble_eq_true rfl) ?_
  refine vc_seq ?_
  refine vc_regionW (qm 1) [0] rfl rfl ?_
  refine vq rfl rfl (q_assign rfl) ?_
  refine vendW ?_
  refine vc_seq ?_
  refine vc_seq ?_
  refine vc_regionW (qm 7) [0, 1, 2] rfl rfl ?_
  refine vq rfl rfl (q_move rfl) ?_
  refine vq rfl rfl (q_len sl40 rfl (by first | exact lenM | rfl)) ?_
  refine vq rfl rfl (q_lt rfl rfl) ?_
  refine vendW ?_
  refine vc_condF rfl (by first | (simp; done) | (simp; omega) | simp_all) ?_
  refine vc_skip ?_
  refine vc_seq ?_
  refine vc_regionW (qm 15) [0, 1, 2, 3] rfl rfl ?_
  refine vq rfl rfl (q_move rfl) ?_
  refine vq rfl rfl (q_index sl40 rfl rfl (by omega) (by first | exact nthI (by omega) | exact nthM (by omega))) ?_
  refine vq rfl rfl (q_load sc3 rfl) ?_
  refine vq rfl rfl (q_assign rfl) ?_
  refine vendW ?_
  refine vc_seq ?_
  refine vc_seq ?_
  refine vc_regionW (qm 1) [0] rfl rfl ?_
  refine vq rfl rfl (q_assign rfl) ?_
  refine vendW ?_
  refine vc_block ?_
  refine vc_loopS (α := Nat) [3, 4, 12, 13, 14, 15, 16, 17, 18, 19, 20, 21, 22, 23] (fun i => [(4, .int (i : Int)), (3, .int (maxL l i))]) (fun i => s) (fun i => 1 ≤ i ∧ i ≤ l.length) (fun i => l.length - i) 1 ⟨Nat.le_refl _, h0⟩ rfl ⟨rfl, (congrArg (fun z : Int => some (AV.int z)) (by simp [maxL])), trivial⟩ (fun _ => rfl) ?_
  intro i hok
  refine vc_seq ?_
  refine vc_seq ?_
  refine vc_regionW (qm 15) [0, 1, 2, 3] rfl rfl ?_
  refine vq rfl rfl (q_move rfl) ?_
  refine vq rfl rfl (q_move rfl) ?_
  refine vq rfl rfl (q_len sl40 rfl (by first | exact lenM | rfl)) ?_
  refine vq rfl rfl (q_lt rfl rfl) ?_
  refine vendW ?_
  refine vc_condD rfl (fun h => ?_) (fun h => ?_)
  ·
    refine vc_skip ?_
    refine vc_seq ?_
    refine vc_block ?_
    refine vc_regionW (qm 127) [0, 1, 2, 3, 4, 5, 6] rfl rfl ?_
    refine vq rfl rfl (q_move rfl) ?_
    refine vq rfl rfl (q_move rfl) ?_
    refine vq rfl rfl (q_move rfl) ?_
    refine vq rfl rfl (q_index sl40 rfl rfl (by omega) (by first | exact nthI (by omega) | exact nthM (by omega))) ?_
    refine vq rfl rfl (q_load sc3 rfl) ?_
    refine vq rfl rfl (q_max rfl rfl) ?_
    refine vq rfl rfl (q_assign rfl) ?_
    refine vendW ?_
    refine vc_regionW (qm 7) [0, 1, 2] rfl rfl ?_
    refine vq rfl rfl (q_move rfl) ?_
    refine vq rfl rfl (q_add rfl rfl (w64 (by omega))) ?_
    refine vq rfl rfl (q_assign rfl) ?_
    refine vendW ?_
    refine ⟨i + 1, by omega, by omega, ?_, ⟨rfl, rfl, trivial⟩, rfl⟩
    repeat (first | exact Same.refl | refine Same.upd rfl ?_ | refine Same.drop rfl ?_)
  refine vc_exit ?_
  refine vc_seq ?_
  refine vc_regionW (qm 3) [0, 1] rfl rfl ?_
  refine vq rfl rfl (q_move rfl) ?_
  refine vq rfl rfl (q_assign rfl) ?_
  refine vendW ?_
  refine vc_ret ?_
  obtain rfl : i = l.length := by omega
  exact ret1 rfl rfl (Le.refl _) (Cv.le (Le.refl _) _) hk
end Go.Proofs.Ytpcpdepfnoijoaa

set_option linter.unusedVariables false
set_option maxRecDepth 100000
namespace Go.Proofs.Ytpcpdepfnoijoaa
open Go.Vc
theorem growP {n : Nat} {s : St} {K : AV → St → Prop} (hn : n < 2^40) (hk : ∀ x s1, OwnSt s x 91 2 [] s1 → K x s1) : CallsA Try.prog 184 [nilS, .int (n : Int)] s K := by
  refine callsA_of Try.func184 rfl rfl (Nat.le_of_ble_eq_true rfl) ?_
  refine vc_seq ?_
  refine vc_regionW (qm 1) [0] rfl rfl ?_
  refine vq rfl rfl (q_assign rfl) ?_
  refine vendW ?_
  refine vc_seq ?_
  refine vc_seq ?_
  refine vc_regionW (qm 3) [0, 1] rfl rfl ?_
  refine vq rfl rfl (q_move rfl) ?_
  refine vq rfl rfl (q_lt rfl rfl) ?_
  refine vendW ?_
  refine vc_condF rfl (by first | (simp; done) | (simp; omega) | simp_all) ?_
  refine vc_skip ?_
  refine vc_seq ?_
  refine vc_seq ?_
  refine vc_regionW (qm 255) [0, 1, 2, 3, 4, 5, 6, 7] rfl rfl ?_
  refine vq rfl rfl (q_move rfl) ?_
  refine vq rfl rfl (q_move rfl) ?_
  refine vq rfl rfl (q_capNil sl23 rfl) ?_
  refine vq rfl rfl (q_move rfl) ?_
  refine vq rfl rfl (q_len sl23 rfl (by first | exact lenM | rfl)) ?_
  refine vq rfl rfl (q_sub rfl rfl (w64 (by omega))) ?_
  refine vq rfl rfl (q_sub rfl rfl (w64 (by omega))) ?_
  refine vq rfl rfl (q_assign rfl) ?_
  refine vendW ?_
  refine vc_seq ?_
  refine vc_regionW (qm 3) [0, 1] rfl rfl ?_
  refine vq rfl rfl (q_move rfl) ?_
  refine vq rfl rfl (q_gt rfl rfl) ?_
  refine vendW ?_
  refine vc_condD rfl (fun h => ?_) (fun h => ?_)
  ·
    refine vc_regionW (qm 991) [0, 1, 2, 3, 4, 5, 6, 7, 8, 9] rfl rfl ?_
    refine vq rfl rfl (q_move rfl) ?_
    refine vq rfl rfl (q_move rfl) ?_
    refine vq rfl rfl (q_capNil sl23 rfl) ?_
    refine vq rfl rfl (q_sliceNil sl23 rfl rfl) ?_
    refine vq rfl rfl (q_move rfl) ?_
    refine ve rfl rfl (e_growNil sl23 zo91 (by decide) ik3 rfl rfl (by omega) (by omega) (by omega) (fun k hk0 => ?_))
    refine vq rfl rfl (q_move rfl) ?_
    refine vq rfl rfl (q_len sl23 rfl (by first | exact lenM | rfl)) ?_
    refine vq rfl rfl (q_sliceH sl23 rfl rfl (by omega) (by omega)) ?_
    refine vq rfl rfl (q_assign rfl) ?_
    refine vendW ?_
    refine vc_seq ?_
    refine vc_regionW (qm 3) [0, 1] rfl rfl ?_
    refine vq rfl rfl (q_move rfl) ?_
    refine vq rfl rfl (q_assign rfl) ?_
    refine vendW ?_
    refine vc_ret ?_
    exact ret1 rfl rfl (Le.refl _) (Cv.le (Le.refl _) _) (hk _ _ (OwnSt.mk hk0 rfl))
  refine vc_skip ?_
  refine vc_seq ?_
  refine vc_regionW (qm 3) [0, 1] rfl rfl ?_
  refine vq rfl rfl (q_move rfl) ?_
  refine vq rfl rfl (q_assign rfl) ?_
  refine vendW ?_
  refine vc_ret ?_
  exact ret1 rfl rfl (Le.refl _) (Cv.le (Le.refl _) _) (hk _ _ (OwnSt.nil _ _ _))
theorem growI {n : Nat} {s : St} {K : AV → St → Prop} (hn : n < 2^40) (hk : ∀ x s1, OwnSt s x 3 1 [] s1 → K x s1) : CallsA Try.prog 173 [nilS, .int (n : Int)] s K := by
  refine callsA_of Try.func173 rfl rfl (Nat.le_of_ble_eq_true rfl) ?_
  refine vc_seq ?_
  refine vc_regionW (qm 1) [0] rfl rfl ?_
  refine vq rfl rfl (q_assign rfl) ?_
  refine vendW ?_
  refine vc_seq ?_
  refine vc_seq ?_
  refine vc_regionW (qm 3) [0, 1] rfl rfl ?_
  refine vq rfl rfl (q_move rfl) ?_
  refine vq rfl rfl (q_lt rfl rfl) ?_
  refine vendW ?_
  refine vc_condF rfl (by first | (simp; done) | (simp; omega) | simp_all) ?_
  refine vc_skip ?_
  refine vc_seq ?_
  refine vc_seq ?_
  refine vc_regionW (qm 255) [0, 1, 2, 3, 4, 5, 6, 7] rfl rfl ?_
  refine vq rfl rfl (q_move rfl) ?_
  refine vq rfl rfl (q_move rfl) ?_
  refine vq rfl rfl (q_capNil sl40 rfl) ?_
  refine vq rfl rfl (q_move rfl) ?_
  refine vq rfl rfl (q_len sl40 rfl (by first | exact lenM | rfl)) ?_
  refine vq rfl rfl (q_sub rfl rfl (w64 (by omega))) ?_
  refine vq rfl rfl (q_sub rfl rfl (w64 (by omega))) ?_
  refine vq rfl rfl (q_assign rfl) ?_
  refine vendW ?_
  refine vc_seq ?_
  refine vc_regionW (qm 3) [0, 1] rfl rfl ?_
  refine vq rfl rfl (q_move rfl) ?_
  refine vq rfl rfl (q_gt rfl rfl) ?_
  refine vendW ?_
  refine vc_condD rfl (fun h => ?_) (fun h => ?_)
  ·
    refine vc_regionW (qm 991) [0, 1, 2, 3, 4, 5, 6, 7, 8, 9] rfl rfl ?_
    refine vq rfl rfl (q_move rfl) ?_
    refine vq rfl rfl (q_move rfl) ?_
    refine vq rfl rfl (q_capNil sl40 rfl) ?_
    refine vq rfl rfl (q_sliceNil sl40 rfl rfl) ?_
    refine vq rfl rfl (q_move rfl) ?_
    refine ve rfl rfl (e_growNil sl40 zo3 (by decide) ik3 rfl rfl (by omega) (by omega) (by omega) (fun k hk0 => ?_))
    refine vq rfl rfl (q_move rfl) ?_
    refine vq rfl rfl (q_len sl40 rfl (by first | exact lenM | rfl)) ?_
    refine vq rfl rfl (q_sliceH sl40 rfl rfl (by omega) (by omega)) ?_
    refine vq rfl rfl (q_assign rfl) ?_
    refine vendW ?_
    refine vc_seq ?_
    refine vc_regionW (qm 3) [0, 1] rfl rfl ?_
    refine vq rfl rfl (q_move rfl) ?_
    refine vq rfl rfl (q_assign rfl) ?_
    refine vendW ?_
    refine vc_ret ?_
    exact ret1 rfl rfl (Le.refl _) (Cv.le (Le.refl _) _) (hk _ _ (OwnSt.mk hk0 rfl))
  refine vc_skip ?_
  refine vc_seq ?_
  refine vc_regionW (qm 3) [0, 1] rfl rfl ?_
  refine vq rfl rfl (q_move rfl) ?_
  refine vq rfl rfl (q_assign rfl) ?_
  refine vendW ?_
  refine vc_ret ?_
  exact ret1 rfl rfl (Le.refl _) (Cv.le (Le.refl _) _) (hk _ _ (OwnSt.nil _ _ _))
theorem concatP {ls : List (List Pt)} {s : St} {K : AV → St → Prop} (hls : ls.length < 2^44) (hl : ls.flatten.length < 2^40) (hk : K (.sl 2 (ls.flatten.map ptR)) s) : CallsA Try.prog 169 [.sl 1 (ls.map (fun l => [.sl 2 (l.map ptR)]))] s K := by
  refine callsA_of Try.func169 rfl rfl (Nat.le_of_ble_eq_true rfl) ?_
  refine vc_seq ?_
  refine vc_regionW (qm 1) [0] rfl rfl ?_
  refine vq rfl rfl (q_assign rfl) ?_
  refine vendW ?_
  refine vc_seq ?_
  refine vc_regionW (qm 1) [0] rfl rfl ?_
  refine vq rfl rfl (q_assign rfl) ?_
  refine vendW ?_
  refine vc_seq ?_
  refine vc_seq ?_
  refine vc_regionW (qm 7) [0, 1, 2] rfl rfl ?_
  refine vq rfl rfl (q_move rfl) ?_
  refine vq rfl rfl (q_len sl228 rfl (by first | exact lenM | rfl)) ?_
  refine vq rfl rfl (q_move rfl) ?_
  refine vendW ?_
  refine vc_block ?_
  refine vc_loopS (α := Nat) [3, 5, 11, 12, 13, 14, 15, 16, 17, 18, 19, 20, 21, 22] (fun i => [(11, .int (i : Int)), (3, .int ((ls.take i).flatten.length : Int))]) (fun i => s) (fun i => i ≤ ls.length) (fun i => ls.length - i) 0 (by simp) rfl ⟨rfl, rfl, trivial⟩ (fun _ => rfl) ?_
  intro i hok
  have hfl := flat_take_le ls i
  refine vc_seq ?_
  refine vc_regionW (qm 1) [0] rfl rfl ?_
  refine vq rfl rfl (q_lt rfl rfl) ?_
  refine vendW ?_
  refine vc_seq ?_
  refine vc_condD rfl (fun h => ?_) (fun h => ?_)
  ·
    refine vc_skip ?_
    refine vc_seq ?_
    refine vc_block ?_
    refine vc_seq ?_
    refine vc_regionW (qm 7) [0, 1, 2] rfl rfl ?_
    refine vq rfl rfl (q_index sl228 rfl rfl (by omega) (by first | exact nthI (by omega) | exact nthM (by omega))) ?_
    refine vq rfl rfl (q_load sc23 rfl) ?_
    refine vq rfl rfl (q_assign rfl) ?_
    refine vendW ?_
    refine vc_seq ?_
    refine vc_regionW (qm 31) [0, 1, 2, 3, 4] rfl rfl ?_
    refine vq rfl rfl (q_move rfl) ?_
    refine vq rfl rfl (q_move rfl) ?_
    refine vq rfl rfl (q_len sl23 rfl lenM) ?_
    refine vq rfl rfl (q_add rfl rfl (w64 (by have hsu := flat_take_succ (ls := ls) (i := i) (by omega); have hfl := flat_take_le ls (i + 1); rw [hsu, List.length_append] at hfl; have e9 : (ls.getD i default).length = (ls.getD i []).length := rfl; omega))) ?_
    refine vq rfl rfl (q_assign rfl) ?_
    refine vendW ?_
    refine vc_seq ?_
    refine vc_regionW (qm 3) [0, 1] rfl rfl ?_
    refine vq rfl rfl (q_move rfl) ?_
    refine vq rfl rfl (q_lt rfl rfl) ?_
    refine vendW ?_
    refine vc_condF rfl (by first | (simp; done) | (simp; omega) | simp_all) ?_
    refine vc_skip ?_
    refine vc_regionW (qm 3) [0, 1] rfl rfl ?_
    refine vq rfl rfl (q_add rfl rfl (w64 (by omega))) ?_
    refine vq rfl rfl (q_move rfl) ?_
    refine vendW ?_
    have hsu := flat_take_succ (ls := ls) (i := i) (by omega)
    refine ⟨i + 1, by omega, by omega, ?_, ⟨rfl, (congrArg (fun z : Int => some (AV.int z)) (by rw [hsu, List.length_append]; rfl)), trivial⟩, rfl⟩
    repeat (first | exact Same.refl | refine Same.upd rfl ?_ | refine Same.drop rfl ?_)
  refine vc_exit ?_
  refine vc_seq ?_
  refine vc_regionW (qm 5) [0, 1, 2] rfl rfl ?_
  refine vq rfl rfl (q_move rfl) ?_
  refine ve rfl rfl (e_callF go184 rfl (growP (n := (ls.take i).flatten.length) (by omega) (fun x0 s1 ho0 => ?_)))
  refine vq rfl rfl (q_assign rfl) ?_
  refine vendW ?_
  refine vc_seq ?_
  refine vc_seq ?_
  refine vc_regionW (qm 7) [0, 1, 2] rfl rfl ?_
  refine vq rfl rfl (q_move rfl) ?_
  refine vq rfl rfl (q_len sl228 rfl (by first | exact lenM | rfl)) ?_
  refine vq rfl rfl (q_move rfl) ?_
  refine vendW ?_
  refine vc_block ?_
  refine vc_loopS (α := Nat × AV × St) [6, 8, 27, 28, 29, 30, 31, 32, 33, 34] (fun a => [(27, .int (a.1 : Int)), (6, a.2.1)]) (fun a => a.2.2) (fun a => a.1 ≤ ls.length ∧ OwnSt s a.2.1 91 2 ((ls.take a.1).flatten.map ptR) a.2.2) (fun a => ls.length - a.1) (0, x0, s1) ⟨by simp, ho0⟩ rfl ⟨rfl, rfl, trivial⟩ (fun _ => rfl) ?_
  intro ⟨j, x, s2⟩ ⟨hj, ho⟩
  simp only at hj ho ⊢
  have hfl2 := flat_take_le ls j
  refine vc_seq ?_
  refine vc_regionW (qm 1) [0] rfl rfl ?_
  refine vq rfl rfl (q_lt rfl rfl) ?_
  refine vendW ?_
  refine vc_seq ?_
  refine vc_condD rfl (fun h => ?_) (fun h => ?_)
  ·
    refine vc_skip ?_
    refine vc_seq ?_
    refine vc_block ?_
    refine vc_seq ?_
    refine vc_regionW (qm 7) [0, 1, 2] rfl rfl ?_
    refine vq rfl rfl (q_index sl228 rfl rfl (by omega) (by first | exact nthI (by omega) | exact nthM (by omega))) ?_
    refine vq rfl rfl (q_load sc23 rfl) ?_
    refine vq rfl rfl (q_assign rfl) ?_
    refine vendW ?_
    refine vc_regionW (qm 11) [0, 1, 2, 3] rfl rfl ?_
    refine vq rfl rfl (q_move rfl) ?_
    refine vq rfl rfl (q_move rfl) ?_
    refine ve rfl rfl (e_append sl23 zo91 rfl rfl ho (SrcOK.sl 2 _) (rowsC1_map (fun _ => rfl) _) (by have hsu := flat_take_succ (ls := ls) (i := j) (by omega); have hfl := flat_take_le ls (j + 1); rw [hsu, List.length_append] at hfl; rw [List.length_map, List.length_map]; have e9 : (ls.getD j default).length = (ls.getD j []).length := rfl; simp only [maxLen_eq]; omega) (fun x3 s3 ho3 => ?_))
    refine vq rfl rfl (q_assign rfl) ?_
    refine vendW ?_
    refine vc_regionW (qm 3) [0, 1] rfl rfl ?_
    refine vq rfl rfl (q_add rfl rfl (w64 (by omega))) ?_
    refine vq rfl rfl (q_move rfl) ?_
    refine vendW ?_
    have hsu := flat_take_succ (ls := ls) (i := j) (by omega)
    refine ⟨(j + 1, x3, s3), ⟨by simp only; omega, by rw [hsu, List.map_append]; exact ho3⟩, by simp only; omega, ?_, ⟨rfl, rfl, trivial⟩, rfl⟩
    repeat (first | exact Same.refl | refine Same.upd rfl ?_ | refine Same.drop rfl ?_)
  refine vc_exit ?_
  refine vc_seq ?_
  refine vc_regionW (qm 3) [0, 1] rfl rfl ?_
  refine vq rfl rfl (q_move rfl) ?_
  refine vq rfl rfl (q_assign rfl) ?_
  refine vendW ?_
  refine vc_ret ?_
  obtain rfl : j = ls.length := by omega
  rw [List.take_length] at ho
  exact ret1 rfl rfl ho.le ho.frz hk
theorem concatI {ls : List (List Int)} {s : St} {K : AV → St → Prop} (hls : ls.length < 2^44) (hl : ls.flatten.length < 2^40) (hk : K (.sl 1 (ls.flatten.map eI)) s) : CallsA Try.prog 135 [.sl 1 (ls.map (fun l => [.sl 1 (l.map eI)]))] s K := by
  refine callsA_of Try.func135 rfl rfl (Nat.le_of_ble_eq_true rfl) ?_
  refine vc_seq ?_
  refine vc_regionW (qm 1) [0] rfl rfl ?_
  refine vq rfl rfl (q_assign rfl) ?_
  refine vendW ?_
  refine vc_seq ?_
  refine vc_regionW (qm 1) [0] rfl rfl ?_
  refine vq rfl rfl (q_assign rfl) ?_
  refine vendW ?_
  refine vc_seq ?_
  refine vc_seq ?_
  refine vc_regionW (qm 7) [0, 1, 2] rfl rfl ?_
  refine vq rfl rfl (q_move rfl) ?_
  refine vq rfl rfl (q_len sl182 rfl (by first | exact lenM | rfl)) ?_
  refine vq rfl rfl (q_move rfl) ?_
  refine vendW ?_
  refine vc_block ?_
  refine vc_loopS (α := Nat) [3, 5, 11, 12, 13, 14, 15, 16, 17, 18, 19, 20, 21, 22] (fun i => [(11, .int (i : Int)), (3, .int ((ls.take i).flatten.length : Int))]) (fun i => s) (fun i => i ≤ ls.length) (fun i => ls.length - i) 0 (by simp) rfl ⟨rfl, rfl, trivial⟩ (fun _ => rfl) ?_
  intro i hok
  have hfl := flat_take_le ls i
  refine vc_seq ?_
  refine vc_regionW (qm 1) [0] rfl rfl ?_
  refine vq rfl rfl (q_lt rfl rfl) ?_
  refine vendW ?_
  refine vc_seq ?_
  refine vc_condD rfl (fun h => ?_) (fun h => ?_)
  ·
    refine vc_skip ?_
    refine vc_seq ?_
    refine vc_block ?_
    refine vc_seq ?_
    refine vc_regionW (qm 7) [0, 1, 2] rfl rfl ?_
    refine vq rfl rfl (q_index sl182 rfl rfl (by omega) (by first | exact nthI (by omega) | exact nthM (by omega))) ?_
    refine vq rfl rfl (q_load sc40 rfl) ?_
    refine vq rfl rfl (q_assign rfl) ?_
    refine vendW ?_
    refine vc_seq ?_
    refine vc_regionW (qm 31) [0, 1, 2, 3, 4] rfl rfl ?_
    refine vq rfl rfl (q_move rfl) ?_
    refine vq rfl rfl (q_move rfl) ?_
    refine vq rfl rfl (q_len sl40 rfl lenM) ?_
    refine vq rfl rfl (q_add rfl rfl (w64 (by have hsu := flat_take_succ (ls := ls) (i := i) (by omega); have hfl := flat_take_le ls (i + 1); rw [hsu, List.length_append] at hfl; have e9 : (ls.getD i default).length = (ls.getD i []).length := rfl; omega))) ?_
    refine vq rfl rfl (q_assign rfl) ?_
    refine vendW ?_
    refine vc_seq ?_
    refine vc_regionW (qm 3) [0, 1] rfl rfl ?_
    refine vq rfl rfl (q_move rfl) ?_
    refine vq rfl rfl (q_lt rfl rfl) ?_
    refine vendW ?_
    refine vc_condF rfl (by first | (simp; done) | (simp; omega) | simp_all) ?_
    refine vc_skip ?_
    refine vc_regionW (qm 3) [0, 1] rfl rfl ?_
    refine vq rfl rfl (q_add rfl rfl (w64 (by omega))) ?_
    refine vq rfl rfl (q_move rfl) ?_
    refine vendW ?_
    have hsu := flat_take_succ (ls := ls) (i := i) (by omega)
    refine ⟨i + 1, by omega, by omega, ?_, ⟨rfl, (congrArg (fun z : Int => some (AV.int z)) (by rw [hsu, List.length_append]; rfl)), trivial⟩, rfl⟩
    repeat (first | exact Same.refl | refine Same.upd rfl ?_ | refine Same.drop rfl ?_)
  refine vc_exit ?_
  refine vc_seq ?_
  refine vc_regionW (qm 5) [0, 1, 2] rfl rfl ?_
  refine vq rfl rfl (q_move rfl) ?_
  refine ve rfl rfl (e_callF go173 rfl (growI (n := (ls.take i).flatten.length) (by omega) (fun x0 s1 ho0 => ?_)))
  refine vq rfl rfl (q_assign rfl) ?_
  refine vendW ?_
  refine vc_seq ?_
  refine vc_seq ?_
  refine vc_regionW (qm 7) [0, 1, 2] rfl rfl ?_
  refine vq rfl rfl (q_move rfl) ?_
  refine vq rfl rfl (q_len sl182 rfl (by first | exact lenM | rfl)) ?_
  refine vq rfl rfl (q_move rfl) ?_
  refine vendW ?_
  refine vc_block ?_
  refine vc_loopS (α := Nat × AV × St) [6, 8, 27, 28, 29, 30, 31, 32, 33, 34] (fun a => [(27, .int (a.1 : Int)), (6, a.2.1)]) (fun a => a.2.2) (fun a => a.1 ≤ ls.length ∧ OwnSt s a.2.1 3 1 ((ls.take a.1).flatten.map eI) a.2.2) (fun a => ls.length - a.1) (0, x0, s1) ⟨by simp, ho0⟩ rfl ⟨rfl, rfl, trivial⟩ (fun _ => rfl) ?_
  intro ⟨j, x, s2⟩ ⟨hj, ho⟩
  simp only at hj ho ⊢
  have hfl2 := flat_take_le ls j
  refine vc_seq ?_
  refine vc_regionW (qm 1) [0] rfl rfl ?_
  refine vq rfl rfl (q_lt rfl rfl) ?_
  refine vendW ?_
  refine vc_seq ?_
  refine vc_condD rfl (fun h => ?_) (fun h => ?_)
  ·
    refine vc_skip ?_
    refine vc_seq ?_
    refine vc_block ?_
    refine vc_seq ?_
    refine vc_regionW (qm 7) [0, 1, 2] rfl rfl ?_
    refine vq rfl rfl (q_index sl182 rfl rfl (by omega) (by first | exact nthI (by omega) | exact nthM (by omega))) ?_
    refine vq rfl rfl (q_load sc40 rfl) ?_
    refine vq rfl rfl (q_assign rfl) ?_
    refine vendW ?_
    refine vc_regionW (qm 11) [0, 1, 2, 3] rfl rfl ?_
    refine vq rfl rfl (q_move rfl) ?_
    refine vq rfl rfl (q_move rfl) ?_
    refine ve rfl rfl (e_append sl40 zo3 rfl rfl ho (SrcOK.sl 1 _) (rowsC1_ints _) (by have hsu := flat_take_succ (ls := ls) (i := j) (by omega); have hfl := flat_take_le ls (j + 1); rw [hsu, List.length_append] at hfl; rw [List.length_map, List.length_map]; have e9 : (ls.getD j default).length = (ls.getD j []).length := rfl; simp only [maxLen_eq]; omega) (fun x3 s3 ho3 => ?_))
    refine vq rfl rfl (q_assign rfl) ?_
    refine vendW ?_
    refine vc_regionW (qm 3) [0, 1] rfl rfl ?_
    refine vq rfl rfl (q_add rfl rfl (w64 (by omega))) ?_
    refine vq rfl rfl (q_move rfl) ?_
    refine vendW ?_
    have hsu := flat_take_succ (ls := ls) (i := j) (by omega)
    refine ⟨(j + 1, x3, s3), ⟨by simp only; omega, by rw [hsu, List.map_append]; exact ho3⟩, by simp only; omega, ?_, ⟨rfl, rfl, trivial⟩, rfl⟩
    repeat (first | exact Same.refl | refine Same.upd rfl ?_ | refine Same.drop rfl ?_)
  refine vc_exit ?_
  refine vc_seq ?_
  refine vc_regionW (qm 3) [0, 1] rfl rfl ?_
  refine vq rfl rfl (q_move rfl) ?_
  refine vq rfl rfl (q_assign rfl) ?_
  refine vendW ?_
  refine vc_ret ?_
  obtain rfl : j = ls.length := by omega
  rw [List.take_length] at ho
  exact ret1 rfl rfl ho.le ho.frz hk
theorem portsN {n : Net} {s : St} {K : AV → St → Prop} (hn : n.ins.length + n.outs.length < 2^40) (hk : K (.sl 2 ((n.ins ++ n.outs).map ptR)) s) : CallsA Try.prog 127 [netA n] s K := by
  refine callsA_of Try.func127 rfl rfl (Nat.le_of_ble_eq_true rfl) ?_
  refine vc_seq ?_
  refine vc_regionW (qm 3) [0, 1] rfl rfl ?_
  refine vq rfl rfl (q_box rfl rfl) ?_
  refine vq rfl rfl (q_assign rfl) ?_
  refine vendW ?_
  refine vc_seq ?_
  refine vc_regionW (qm 95) [0, 1, 2, 3, 4, 5, 6] rfl rfl ?_
  refine vq rfl rfl (q_field fo25_1 rfl (Nat.le_of_ble_eq_true rfl)) ?_
  refine vq rfl rfl (q_load sc23 rfl) ?_
  refine vq rfl rfl (q_field fo25_2 rfl (Nat.le_of_ble_eq_true rfl)) ?_
  refine vq rfl rfl (q_load sc23 rfl) ?_
  refine vq rfl rfl (q_buildS sl228 zo23 (by decide) rfl rfl rfl rfl (by decide)) ?_
  refine ve rfl rfl (e_callF go169 rfl (CallsA.le (ALes.cons (ale_slx 1 _) ALes.nil) (concatP (ls := [n.ins, n.outs]) (by simp) (by simp; omega) ?_)))
  refine vq rfl rfl (q_assign rfl) ?_
  refine vendW ?_
  refine vc_ret ?_
  have e : [n.ins, n.outs].flatten = n.ins ++ n.outs := by simp
  rw [← e] at hk
  exact ret1 rfl rfl (Le.refl _) (Cv.le (Le.refl _) _) hk
theorem clone1 {l : List Pt} {s : St} {K : AV → St → Prop} (hl : l.length < 2^40) (hb : ∀ p ∈ l, p.bits.length < 2^40) (hk : K (.sl 2 (l.map ptR)) s) : CallsA Try.prog 109 [.sl 2 (l.map ptR)] s K := by
  refine callsA_of Try.func109 rfl rfl (Nat.le_of_ble_eq_true rfl) ?_
  refine vc_seq ?_
  refine vc_regionW (qm 1) [0] rfl rfl ?_
  refine vq rfl rfl (q_assign rfl) ?_
  refine vendW ?_
  refine vc_seq ?_
  refine vc_regionW (qm 1) [0] rfl rfl ?_
  refine vq rfl rfl (q_assign rfl) ?_
  refine vendW ?_
  refine vc_seq ?_
  refine vc_seq ?_
  refine vc_regionW (qm 7) [0, 1, 2] rfl rfl ?_
  refine vq rfl rfl (q_move rfl) ?_
  refine vq rfl rfl (q_len sl23 rfl (by first | exact lenM | rfl)) ?_
  refine vq rfl rfl (q_move rfl) ?_
  refine vendW ?_
  refine vc_block ?_
  refine vc_loopS (α := Nat × AV × St) [3, 5, 8, 9, 10, 11, 12, 13, 14, 15, 16, 17, 18, 19, 20, 21] (fun a => [(8, .int (a.1 : Int)), (3, a.2.1)]) (fun a => a.2.2) (fun a => a.1 ≤ l.length ∧ OwnSt s a.2.1 91 2 ((l.take a.1).map ptR) a.2.2) (fun a => l.length - a.1) (0, nilS, s) ⟨by simp, OwnSt.nil _ _ _⟩ rfl ⟨rfl, rfl, trivial⟩ (fun _ => rfl) ?_
  intro ⟨i, x, s1⟩ ⟨hi, ho⟩
  simp only at hi ho ⊢
  refine vc_seq ?_
  refine vc_regionW (qm 1) [0] rfl rfl ?_
  refine vq rfl rfl (q_lt rfl rfl) ?_
  refine vendW ?_
  refine vc_seq ?_
  refine vc_condD rfl (fun h => ?_) (fun h => ?_)
  ·
    refine vc_skip ?_
    refine vc_seq ?_
    refine vc_block ?_
    refine vc_seq ?_
    refine vc_regionW (qm 3) [0, 1, 2, 3] rfl rfl ?_
    refine vq rfl rfl (q_index sl23 rfl rfl (by omega) (by first | exact nthI (by omega) | exact nthM (by omega))) ?_
    refine vq rfl rfl (q_loadA ag91 rfl rfl) ?_
    refine ve rfl rfl (e_alloc zr91 (fun k5 hk5 => ?_))
    refine vn rfl rfl (e_storeN sz91 rfl rfl rfl rfl (upd_same _ _ _) rfl ?_)
    refine vendW ?_
    refine vc_frzC (i := 5) hk5 (upd_upd _ _ _ _) rfl ?_
    refine vc_regionDW mx (qm 735) [0, 1, 2, 3, 4, 5, 6, 7, 8, 9] (by kernel_rfl) ?_
    refine vq rfl rfl (q_move rfl) ?_
    refine vq rfl rfl (q_field fo91_0 rfl (Nat.le_of_ble_eq_true rfl)) ?_
    refine vq rfl rfl (q_load sc9 rfl) ?_
    refine vq rfl rfl (q_field fo91_1 rfl (Nat.le_of_ble_eq_true rfl)) ?_
    refine vq rfl rfl (q_load sc40 rfl) ?_
    refine ve rfl rfl (e_callF go54 rfl (cloneI (hb _ (getD_mem (by omega))) ?_))
    refine vq rfl rfl (q_build pl91 zr91 rfl rfl) ?_
    refine vq rfl rfl (q_buildS sl23 zo91 (by decide) rfl rfl rfl rfl (by decide)) ?_
    refine ve rfl rfl (e_append sl23 zo91 rfl rfl ho (SrcOK.slx 2 _) (rowsC1_one rfl) (by simp [maxLen_eq]; omega) (fun x3 s3 ho3 => ?_))
    refine vq rfl rfl (q_assign rfl) ?_
    refine vendW ?_
    refine vc_regionW (qm 3) [0, 1] rfl rfl ?_
    refine vq rfl rfl (q_add rfl rfl (w64 (by omega))) ?_
    refine vq rfl rfl (q_move rfl) ?_
    refine vendW ?_
    refine ⟨(i + 1, x3, s3), ⟨by simp only; omega, by rw [map_take_succ (by omega)]; exact ho3⟩, by simp only; omega, ?_, ⟨rfl, rfl, trivial⟩, rfl⟩
    repeat (first | exact Same.refl | refine Same.upd rfl ?_ | refine Same.drop rfl ?_)
  refine vc_exit ?_
  refine vc_seq ?_
  refine vc_regionW (qm 3) [0, 1] rfl rfl ?_
  refine vq rfl rfl (q_move rfl) ?_
  refine vq rfl rfl (q_assign rfl) ?_
  refine vendW ?_
  refine vc_ret ?_
  obtain rfl : i = l.length := by omega
  rw [List.take_length] at ho
  exact ret1 rfl rfl ho.le ho.frz hk
end Go.Proofs.Ytpcpdepfnoijoaa

set_option linter.unusedVariables false
set_option linter.unusedSimpArgs false
namespace Go.Vc
def YldA (P : Program) (l : Nat) (vals : List Value) (ctx : List AV) (avs : List AV) (s : St) (K : AV → St → Prop) : Prop :=
  ∀ w vs, Sat w s → RepL w (Mut s) avs vs → RepL w (Mut s) ctx vals → YieldAt (FW none) 0 P l vs.toArray w (EndOK w s K)
theorem YldA.mono {P : Program} {l : Nat} {vals : List Value} {ctx : List AV} {avs : List AV} {s : St} {K K' : AV → St → Prop} (h : YldA P l vals ctx avs s K) (hk : ∀ r s, K r s → K' r s) : YldA P l vals ctx avs s K' :=
  fun w vs hs hr hc => by
    obtain ⟨fn, tmps, assign, body, h1, h2⟩ := h w vs hs hr hc
    exact ⟨fn, tmps, assign, body, h1, h2.mono (EndOK.mono hk)⟩
section
variable {P : Program} {env : Env} {s : St} {d : Option Nat} {ty : TypeId} {pos : String} {af : Array Edge} {gd : Option (Nat × Bool)}
variable {K : AV → St → Prop}
theorem e_yield {l : Nat} {vals : List Value} {ctx : List AV} {fo : Operand} {al : List Operand} {ts : Array TypeId} {avs : List AV} (hf : evA env fo = some (.yld l vals ctx)) (hal : evL env al = some avs)
    (h : YldA P l vals ctx avs s K) : EffOK P ⟨d, .call ⟨.value fo, al.toArray, ts⟩, ty, pos, af, gd⟩ env s K := by
  intro w ρ hs hr
  obtain ⟨h1, h2⟩ := hr.1 fo (by simp [Op.operands, Call.operands]) _ hf
  have h4 := evL_rep (ρ := ρ) (fun c hc y hy => hr.1 c (by simp [Op.operands, Call.operands, hc]) y hy) hal
  obtain ⟨fn, tmps, assign, body, h5, h6⟩ := h w _ hs h4 h2
  have hrun : (execOp ρ ⟨d, .call ⟨.value fo, al.toArray, ts⟩, ty, pos, af, gd⟩).run P w = .ok (.round l fn tmps assign body) w := by
    simp [execOp, resolve, h1, Deferred.ofValue, invoke, h5]
  rw [hrun]
  exact h6
end
def setP (env : Env) : List Nat → List AV → Env
  | p :: ps, x :: xs => setP (upd env p x) ps xs
  | _, _ => env
theorem setP_ok {cx : Cx} {w : World} {M : Mset} {N : Nat} : ∀ (ps : List Nat) (xs : List AV) (us : List Value) (env : Env) (a : Act), EnvOK cx w M N env a → RepL w M xs us → (∀ p ∈ ps, p < N) → ps.length = xs.length →
    EnvOK cx w M N (setP env ps xs) { a with tmps := (ps.zip us).foldl (fun t (x : Nat × Value) => t.setIfInBounds x.1 x.2) a.tmps }
  | [], [], us, env, a, h, hr, _, _ => by cases hr; exact h
  | p :: ps, x :: xs, us, env, a, h, ⟨u, us', e, h1, h2⟩, hp, hl => by
    subst e
    simp only [setP, List.zip_cons_cons, List.foldl_cons]
    exact setP_ok ps xs us' (upd env p x) { a with tmps := a.tmps.setIfInBounds p u } (EnvOK.put (d := some p) h (fun i hi => by cases hi; exact hp p (by simp)) h1) h2 (fun q hq => hp q (by simp [hq])) (by simpa using hl)
def ctxOf (N : Nat) (env : Env) : List AV := (List.range N).map fun i => (env i).getD .any
theorem ctx_rep {w : World} {M : Mset} {env : Env} {ts : Array Value} (h : ∀ i x, env i = some x → Rep w M x (ts.getD i undef)) : ∀ (n k : Nat), RepL w M ((List.range' k n).map fun i => (env i).getD .any) ((List.range' k n).map fun i => ts.getD i undef)
  | 0, k => rfl
  | n + 1, k => by
    simp only [List.range'_succ, List.map_cons]
    refine ⟨_, _, rfl, ?_, ctx_rep h n (k + 1)⟩
    cases he : env k with
    | none => trivial
    | some x => exact h k x he
theorem rep_ctx {w : World} {M : Mset} {env : Env} {ts : Array Value} : ∀ (n k : Nat), RepL w M ((List.range' k n).map fun i => (env i).getD .any) ((List.range' k n).map fun i => ts.getD i undef) → ∀ i x, k ≤ i → i < k + n → env i = some x → Rep w M x (ts.getD i undef)
  | 0, k, _, i, x, h1, h2, _ => by omega
  | n + 1, k, h, i, x, h1, h2, hx => by
    simp only [List.range'_succ, List.map_cons] at h
    obtain ⟨u, us, e, h3, h4⟩ := h
    injection e with e1 e2
    subst e1 e2
    rcases Nat.eq_or_lt_of_le h1 with e | hlt
    · subst e; rw [hx] at h3; exact h3
    · exact rep_ctx n (k + 1) h4 i x hlt (by omega) hx
variable {P : Program} {N : Nat} {Q : EQ} {env : Env} {s : St}
def onlyN (K : Env → St → Prop) : EQ
  | .normal => K
  | _ => fun _ _ => False
def Lft (J : Nat → St → Prop) (l : Nat) (o : Obj) (i : Nat) (st' : St) : Prop := ∃ st, J i st ∧ st l = none ∧ st' = upd st l (.raw o)
theorem putObj_size (w : World) (l : Nat) (o : Obj) : (w.putObj l o).heap.size = w.heap.size := by simp [World.putObj]
theorem dead_loop {w : World} {l : Nat} {r : Loop} (h : w.heap[l]? = some (.loop r)) : dead w l := ⟨_, h, .inl ⟨r, rfl⟩⟩
theorem turn_loop {w : World} {l : Nat} {r r' : Loop} {s : St} (hs : Sat w s) (h : w.heap[l]? = some (.loop r)) (hm : ¬ Mut s l) :
    Sat (w.putObj l (.loop r')) s ∧ FrL w (Mut s) (w.putObj l (.loop r')) (Mut s) := by
  have hlt : l < w.heap.size := (Array.getElem?_eq_some_iff.1 h).1
  have ho : ∀ b, b ≠ l → (w.putObj l (.loop r')).heap[b]? = w.heap[b]? := fun b hb => World.putObj_heap_other hb
  have hsame : (w.putObj l (.loop r')).heap[l]? = some (.loop r') := World.putObj_heap_same hlt
  have hf : FrL w (Mut s) (w.putObj l (.loop r')) (Mut s) := ⟨by rw [putObj_size]; exact Nat.le_refl _, fun b hb hmb => by
    by_cases e : b = l
    · subst e; exact .inl (dead_loop h)
    · exact .inr ⟨ho b e, hmb⟩, fun b _ => by
    by_cases e : b = l
    · subst e; simp [World.shape?, hsame, h]
    · unfold World.shape?; rw [ho b e]⟩
  exact ⟨hs.turn hf fun b hb => ho b fun e => hm (e ▸ hb), hf⟩
theorem EnvOK.turn {cx : Cx} {w : World} {l : Nat} {r r' : Loop} {s : St} {a : Act} (he : EnvOK cx w (Mut s) N env a) (h : w.heap[l]? = some (.loop r)) (hf : FrL w (Mut s) (w.putObj l (.loop r')) (Mut s)) :
    EnvOK cx (w.putObj l (.loop r')) (Mut s) N env a := by
  have hlt : l < w.heap.size := (Array.getElem?_eq_some_iff.1 h).1
  have ho : ∀ b, b ≠ l → (w.putObj l (.loop r')).heap[b]? = w.heap[b]? := fun b hb => World.putObj_heap_other hb
  refine ⟨?_, fun k hk => ?_, by rw [putObj_size]; exact he.bs, he.size, fun i x hx => ⟨(he.slot i x hx).1, Rep.monoL hf _ _ (he.slot i x hx).2⟩⟩
  · obtain ⟨Ds, h1, h2, h3⟩ := he.defers
    refine ⟨Ds, h1, h2, fun D hD => ?_⟩
    obtain ⟨g1, g2, g3⟩ := h3 D hD
    exact ⟨g1, (ho D fun e => by subst e; rw [h] at g2; cases g2).trans g2, g3⟩
  · obtain ⟨r0, h1, h2⟩ := he.rnd k hk
    by_cases e : k = l
    · subst e; exact ⟨r', World.putObj_heap_same hlt, h2⟩
    · exact ⟨r0, (ho k e).trans h1, h2⟩
theorem round_ok {ps : List Nat} {assign body : Code} {J : Nat → St → Prop} {i : Nat} {xs : List AV} {l : Nat} {r : Loop} {st : St} {ts : Array Value}
    (hps : ∀ p ∈ ps, p < N) (hts : ts.size = N) (hr1 : r.state = .ready) (hr2 : r.pending = none) (hr3 : r.tmps = ts) (hr4 : r.params = ps.toArray) (hr5 : r.assign = assign) (hr6 : r.body = body) (hlen : xs.length = ps.length)
    (hl : st l = none) (hen : ∀ j x, env j = some x → j < N)
    (hbody : VC P N assign (onlyN fun e s1 => VC P N body (onlyN fun _ s2 => J (i + 1) s2) e s1) (setP env ps xs) st) :
    YldA P l ((List.range' 0 N).map fun i => ts.getD i undef) ((List.range' 0 N).map fun i => (env i).getD .any) xs (upd st l (.raw (.loop r))) (fun x s2 => x = .bool true ∧ Lft J l (.loop r) (i + 1) s2) := by
  intro W vs hs hv hc
  have hlr : W.heap[l]? = some (.loop r) := hs.ok l _ (upd_same _ _ _)
  have hle : Le st (upd st l (.raw (.loop r))) := fun k x hk => by
    by_cases e : k = l
    · subst e; rw [hl] at hk; cases hk
    · rw [upd_ne _ _ e]; exact hk
  have hs0 := hs.le hle
  have hf0 : Fr W (Mut (upd st l (.raw (.loop r)))) W (Mut st) := Fr.of_le hle
  have hm0 : ¬ Mut st l := by
    rintro ⟨k, rk, h1, h2⟩
    have := hs.disj k rk l _ l (hle k rk h1) (upd_same _ _ _) h2 rfl
    subst this; rw [hl] at h1; cases h1
  have hvl := RepL.length hv
  have hy := run_yield (P := P) (args := vs.toArray) hlr (by rw [hr4]; simp [hvl, hlen])
  refine ⟨r.fn, _, r.assign, r.body, hy, roundIn_of_wpIn trivial ?_⟩
  rw [hr5, hr6, hr3, hr4]
  have hlt : l < W.heap.size := (Array.getElem?_eq_some_iff.1 hlr).1
  have hz : (ps.toArray.zip vs.toArray).foldl (fun tmps (t, a) => tmps.setIfInBounds t a) ts = (ps.zip vs).foldl (fun t (x : Nat × Value) => t.setIfInBounds x.1 x.2) ts := by
    rw [← Array.foldl_toList]; simp
  rw [hz]
  have he : EnvOK ⟨some l, W.heap.size⟩ W (Mut st) N (setP env ps xs) { tmps := (ps.zip vs).foldl (fun t (x : Nat × Value) => t.setIfInBounds x.1 x.2) ts, defers := [] } := by
    refine setP_ok ps xs vs env { tmps := ts, defers := [] } ⟨Marks.nil, fun k hk => by cases hk; exact ⟨r, hlr, hm0⟩, Nat.le_refl _, hts, fun j x hx => ?_⟩ (RepL.mono hf0 _ _ hv) hps hlen.symm
    exact ⟨hen j x hx, Rep.mono hf0 _ _ (rep_ctx N 0 hc j x (Nat.zero_le _) (by have := hen j x hx; omega) hx)⟩
  refine wpIn_mono (hbody ⟨some l, W.heap.size⟩ W _ hs0 he) fun e a1 w1 hb => ?_
  obtain ⟨env1, s1, g1, g2, g3, g4⟩ := hb
  cases e with
  | normal =>
    obtain ⟨k1, k2⟩ := g3.keep l hlt hm0
    have hlr1 : w1.heap[l]? = some (.loop r) := k1.trans hlr
    refine ⟨_, run_beginRound hlr1 hr1, ?_⟩
    obtain ⟨t1, t2⟩ := turn_loop (r' := { r with state := .busy }) g2 hlr1 k2
    have hlt1 : l < w1.heap.size := (Array.getElem?_eq_some_iff.1 hlr1).1
    refine wpIn_mono (g4 ⟨some l, W.heap.size⟩ _ _ t1 (g1.turn hlr1 t2)) fun e a3 w3 hb => ?_
    obtain ⟨env3, s3, p1, p2, p3, p4⟩ := hb
    cases e with
    | normal =>
      have hbusy : (w1.putObj l (.loop { r with state := .busy })).heap[l]? = some (.loop { r with state := .busy }) := World.putObj_heap_same hlt1
      obtain ⟨q1, q2⟩ := p3.keep l (by rw [putObj_size]; exact hlt1) k2
      have hlr3 : w3.heap[l]? = some (.loop { r with state := .busy }) := q1.trans hbusy
      have hend := run_endRound (P := P) none hlr3
      have hrr : ({ ({ r with state := .busy } : Loop) with state := if (none : Option Code).isNone then .ready else .done, pending := none } : Loop) = r := by
        cases r; simp at hr1 hr2 ⊢; exact ⟨hr1.symm, hr2.symm⟩
      rw [hrr] at hend
      refine ⟨_, _, hend, .bool true, upd s3 l (.raw (.loop r)), rfl, ?_⟩
      have hlt3 : l < w3.heap.size := (Array.getElem?_eq_some_iff.1 hlr3).1
      have hl4 : (w3.putObj l (.loop r)).heap[l]? = some (.loop r) := World.putObj_heap_same hlt3
      obtain ⟨z1, z2⟩ := p2.take (w' := w3.putObj l (.loop r)) q2 (dead_loop hlr3) (dead_loop hl4) hl4 (putObj_size _ _ _) (fun b hb => World.putObj_heap_other hb)
      have hn3 := p2.none_of q2
      refine ⟨z1, ?_, rfl, s3, p4, hn3, rfl⟩
      have hb1 : ∀ b, b < W.heap.size → ¬ Mut (upd st l (.raw (.loop r))) b → b ≠ l ∧ ¬ Mut st b := fun b hb hm =>
        ⟨fun e => hm ⟨l, _, upd_same _ _ _, e⟩, fun h => hm (h.le hle)⟩
      refine ⟨?_, ?_, ?_, ?_, fun b hb hm => ?_, fun b hb => ?_⟩
      · exact p3.os.trans g3.os
      · exact p3.tape.trans g3.tape
      · exact p3.output.trans g3.output
      · have h1 := g3.size; have h2 := p3.size; rw [putObj_size] at h2; rw [putObj_size]; omega
      · obtain ⟨hbl, hbm⟩ := hb1 b hb hm
        obtain ⟨c1, c2⟩ := g3.keep b hb hbm
        have hs1 := g3.size
        obtain ⟨c3, c4⟩ := p3.keep b (by rw [putObj_size]; omega) c2
        refine ⟨(World.putObj_heap_other hbl).trans (c3.trans ((World.putObj_heap_other hbl).trans c1)), fun hh => ?_⟩
        obtain ⟨j, rj, d1, d2⟩ := hh
        by_cases e : j = l
        · subst e; rw [upd_same] at d1; cases d1; exact hbl d2
        · rw [upd_ne _ _ e] at d1; exact c4 ⟨j, rj, d1, d2⟩
      · have hs1 := g3.size
        have hs3 := p3.size
        rw [putObj_size] at hs3
        have c1 := g3.shape b hb
        have c2 := t2.shape b (by omega)
        have c3 := p3.shape b (by rw [putObj_size]; omega)
        have c4 := z2.shape b (by omega)
        exact c4.trans (c3.trans (c2.trans c1))
    | _ => exact p4.elim
  | _ => exact g4.elim
theorem enter_ok {cx : Cx} {w : World} {a : Act} {ps : List Nat} {assign body : Code} (fn : FuncId) (hs : Sat w s) (he : EnvOK cx w (Mut s) N env a) :
    ∃ l mark r w1, (Instr.enterLoop fn a.tmps ps.toArray assign body (FW cx.ro).round).run P w = .ok (l, mark) w1 ∧
      (r.state = .ready ∧ r.pending = none ∧ r.tmps = a.tmps ∧ r.params = ps.toArray ∧ r.assign = assign ∧ r.body = body) ∧ w1.heap[l]? = some (.loop r) ∧ w.heap.size ≤ l ∧
      Sat w1 s ∧ Fr w (Mut s) w1 (Mut s) ∧ ∃ Ds : List Nat, mark = Ds.map (fun D => { target := .collected D, args := #[] }) ∧ Ds.Nodup ∧ ∀ D ∈ Ds, w.heap.size ≤ D ∧ D ≠ l ∧ w1.heap[D]? = some (.deferred (some [])) := by
  cases hro : cx.ro with
  | none =>
    let r : Loop := { state := .ready, pending := none, fn, tmps := a.tmps, params := ps.toArray, assign, body, defers := w.heap.size }
    obtain ⟨h1, h2⟩ := hs.ext (w' := (w.alloc (.deferred (some []))).alloc (.loop r)) rfl rfl rfl (by simp; omega) (fun b hb => by
      rw [heap_alloc_old _ _ (by simp; omega), heap_alloc_old _ _ hb])
    refine ⟨w.heap.size + 1, _, r, _, run_enterLoop_outer _ _ _ _ _, ⟨rfl, rfl, rfl, rfl, rfl, rfl⟩, ?_, Nat.le_succ _, h1, h2, [w.heap.size], rfl, by simp, ?_⟩
    · have := heap_alloc_new (w.alloc (.deferred (some []))) (.loop r); rwa [World.size_alloc] at this
    · intro D hD
      obtain rfl : D = w.heap.size := by simpa using hD
      refine ⟨Nat.le_refl _, by omega, ?_⟩
      rw [heap_alloc_old _ _ (by simp)]
      exact heap_alloc_new w _
  | some l0 =>
    obtain ⟨r0, g1, g2⟩ := he.rnd l0 hro
    let r : Loop := { state := .ready, pending := none, fn, tmps := a.tmps, params := ps.toArray, assign, body, defers := r0.defers }
    obtain ⟨h1, h2⟩ := hs.ext (w' := w.alloc (.loop r)) rfl rfl rfl (by simp) (fun b hb => heap_alloc_old _ _ hb)
    exact ⟨w.heap.size, _, r, _, run_enterLoop_inner g1 _ _ _ _ _, ⟨rfl, rfl, rfl, rfl, rfl, rfl⟩, heap_alloc_new w _, Nat.le_refl _, h1, h2, [], rfl, List.nodup_nil, by simp⟩
theorem vc_rangeFunc {g : Operand} {ps : List Nat} {assign body : Code} {gf : Nat} {cs : List AV} (J : Nat → St → Prop) (ok : Nat → List AV → Prop) (n : Nat)
    (hgo : isGo P gf = true) (hg : evA env g = some (.clo gf [] cs)) (hps : ps.all (fun p => Nat.blt p N) = true) (h0 : J 0 s)
    (hlen : ∀ i xs, ok i xs → xs.length = ps.length)
    (hbody : ∀ i xs st, J i st → ok i xs → VC P N assign (onlyN fun e s1 => VC P N body (onlyN fun _ s2 => J (i + 1) s2) e s1) (setP env ps xs) st)
    (hit : ∀ l vals ctx o, s l = none → (∀ i xs st', Lft J l o i st' → ok i xs → YldA P l vals ctx xs st' (fun r s2 => r = .bool true ∧ Lft J l o (i + 1) s2)) → CallsA P gf (.yld l vals ctx :: cs) (upd s l (.raw o)) (fun _ s2 => Lft J l o n s2))
    (hk : ∀ st, J n st → Q .normal env st) : VC P N (.rangeFunc g ps.toArray assign body) Q env s := by
  intro cx w a hs he
  have hps' : ∀ p ∈ ps, p < N := fun p hp => by
    have := List.all_eq_true.1 hps p hp
    exact Nat.lt_of_lt_of_le (Nat.lt_succ_self p) (Nat.le_of_ble_eq_true this)
  obtain ⟨us, vs, hgv, hus, hvs⟩ := repOp he g _ hg
  obtain rfl : us = [] := hus
  have hen : ∀ j x, env j = some x → j < N := fun j x hx => (he.slot j x hx).1
  refine wpIn_rangeFunc fun fn _ => ?_
  obtain ⟨l, mark, r, w1, henter, ⟨hr1, hr2, hr3, hr4, hr5, hr6⟩, hl1, hge, hs1, hf1, Ds, hmark, hnd, hDs⟩ := enter_ok (P := P) (ps := ps) (assign := assign) (body := body) fn hs he
  have hml : ¬ Mut s l := fun hm => by have := hs.lt l hm; omega
  have hsl := hs.none_of hml
  have hlt : l < w1.heap.size := (Array.getElem?_eq_some_iff.1 hl1).1
  obtain ⟨hs2, hf2⟩ := hs1.take hml (dead_loop hl1) (dead_loop hl1) hl1 rfl (fun _ _ => rfl)
  refine ⟨l, mark, w1, { target := .fn (.func gf) vs.toArray, args := #[.func (.yield l) #[] #[]] }, w1, gf, (.func (.yield l) #[] #[] :: vs).toArray, w1, henter, ?_, fun _ _ => trivial, ?_, fun e => (by cases e), ?_⟩
  · simp only [resolve, hgv]
    simp [go_sem]
  · simp [invoke, go_sem, run_callFunc hgo]
  · refine CallsIn.fw ?_
    have hcall := hit l ((List.range' 0 N).map fun i => a.tmps.getD i undef) ((List.range' 0 N).map fun i => (env i).getD .any) (.loop r) hsl
      (fun i xs st' ⟨st, j1, j2, j3⟩ hok => by
        subst j3
        exact round_ok hps' he.size hr1 hr2 hr3 hr4 hr5 hr6 (hlen i xs hok) j2 hen (hbody i xs st j1 hok))
    refine Calls.mono (hcall w1 (.func (.yield l) #[] #[] :: vs) hs2 ⟨_, vs, rfl, ⟨rfl, RepL.monoL hf2 _ _ (RepL.mono hf1 _ _ (ctx_rep (fun i x hx => (he.slot i x hx).2) N 0))⟩, RepL.monoL hf2 _ _ (RepL.mono hf1 _ _ hvs)⟩) fun e w3 hend => ?_
    cases e with
    | returned v =>
      obtain ⟨_, s2, q1, q2, q3, st, j1, j2, rfl⟩ := hend
      have hlr : w3.heap[l]? = some (.loop r) := q2.ok l _ (upd_same _ _ _)
      have hle : Le st (upd st l (.raw (.loop r))) := fun k x hk => by
        by_cases e : k = l
        · subst e; rw [j2] at hk; cases hk
        · rw [upd_ne _ _ e]; exact hk
      have hm3 : ¬ Mut st l := by
        rintro ⟨k, rk, h1, h2⟩
        have := q2.disj k rk l _ l (hle k rk h1) (upd_same _ _ _) h2 rfl
        subst this; rw [j2] at h1; cases h1
      obtain ⟨t1, t2⟩ := turn_loop (r' := { r with state := .exhausted }) (q2.le hle) hlr hm3
      have hendl := run_endLoop (P := P) hlr (by rw [hr1]; simp)
      refine ⟨r.pending, _, hendl, ?_⟩
      split
      case h_2 c hc => rw [hr2] at hc; cases hc
      have hnm : ∀ b, ¬ Mut s b → b ≠ l → ¬ Mut (upd s l (.raw (.loop r))) b := by
        rintro b hb hbl ⟨j, rj, d1, d2⟩
        by_cases e : j = l
        · subst e; rw [upd_same] at d1; cases d1; exact hbl d2
        · rw [upd_ne _ _ e] at d1; exact hb ⟨j, rj, d1, d2⟩
      have hf4 : Fr w (Mut s) (w3.putObj l (.loop { r with state := .exhausted })) (Mut st) := by
        refine ⟨q3.os.trans hf1.os, q3.tape.trans hf1.tape, q3.output.trans hf1.output, ?_, fun b hb hm => ?_, fun b hb => ?_⟩
        · have h1 := hf1.size; have h2 := q3.size; rw [putObj_size]; omega
        · obtain ⟨c1, c2⟩ := hf1.keep b hb hm
          have h1 := hf1.size
          have hbl : b ≠ l := by omega
          obtain ⟨c3, c4⟩ := q3.keep b (by omega) (hnm b hm hbl)
          exact ⟨(World.putObj_heap_other hbl).trans (c3.trans c1), fun h => c4 (h.le hle)⟩
        · have h1 := hf1.size
          have h2 := q3.size
          exact (t2.shape b (by omega)).trans ((q3.shape b (by omega)).trans (hf1.shape b hb))
      refine ⟨env, st, ⟨?_, (he.mono hf4).rnd, (he.mono hf4).bs, he.size, (he.mono hf4).slot⟩, t1, hf4, hk st j1⟩
      obtain ⟨Ds0, e1, e2, e3⟩ := (he.mono hf4).defers
      obtain ⟨Ds1, e4, e5, e6⟩ := he.defers
      have hinj : Ds1 = Ds0 := by
        have : Ds1.map (fun D => ({ target := .collected D, args := #[] } : Deferred)) = Ds0.map (fun D => { target := .collected D, args := #[] }) := e4.symm.trans e1
        exact (List.map_inj_right (fun x y hxy => by injection hxy with h1 h2; injection h1)).1 this
      subst hinj
      refine ⟨Ds ++ Ds1, ?_, ?_, fun D hD => ?_⟩
      · simp only [hmark, List.map_append]; rw [e1]
      · rw [List.nodup_append]
        refine ⟨hnd, e2, fun x hx y hy e => ?_⟩
        subst e
        have h1 := (hDs x hx).1
        have h2 := (Array.getElem?_eq_some_iff.1 (e6 x hy).2.1).1
        omega
      · rcases List.mem_append.1 hD with hD | hD
        · obtain ⟨d1, d2, d3⟩ := hDs D hD
          have hDm : ¬ Mut s D := fun hm => by have := hs.lt D hm; omega
          obtain ⟨c3, c4⟩ := q3.keep D (Array.getElem?_eq_some_iff.1 d3).1 (hnm D hDm d2)
          have := he.bs
          exact ⟨by omega, (World.putObj_heap_other d2).trans (c3.trans d3), fun h => c4 (h.le hle)⟩
        · exact e3 D hD
    | panicked c => exact hend.elim
    | outgrown => exact hend.elim
end Go.Vc

set_option linter.unusedVariables false
namespace Go.Vc
theorem ALe.agg {cs ds : List AV} (h : ALes cs ds) : ALe (.agg cs) (.agg ds) := fun w M y ⟨us, h1, h2⟩ => ⟨us, h1, h w M us h2⟩
theorem ALe.tup {cs ds : List AV} (h : ALes cs ds) : ALe (.tup cs) (.tup ds) := fun w M y ⟨us, h1, h2⟩ => ⟨us, h1, h w M us h2⟩
theorem ALe.of_eq {a b : AV} (h : a = b) : ALe a b := h ▸ ALe.refl a
theorem ALe.trans {a b c : AV} (h : ALe a b) (k : ALe b c) : ALe a c := fun w M y hr => k w M y (h w M y hr)
def ARows (xs ys : List (List AV)) (sz : Nat) : Prop := xs.length = ys.length ∧ ∀ w M us, RepRows w M sz xs us → RepRows w M sz ys us
theorem ARows.nil {sz : Nat} : ARows [] [] sz := ⟨rfl, fun _ _ _ h => h⟩
theorem ARows.cons {x y : List AV} {xs ys : List (List AV)} {sz : Nat} (h : ALes x y) (hs : ARows xs ys sz) : ARows (x :: xs) (y :: ys) sz :=
  ⟨by simp [hs.1], fun w M us ⟨u, us', h1, h2, h3, h4⟩ => ⟨u, us', h1, h2, h w M u h3, hs.2 w M us' h4⟩⟩
theorem ARows.refl {xs : List (List AV)} {sz : Nat} : ARows xs xs sz := ⟨rfl, fun _ _ _ h => h⟩
theorem ale_slxR {xs ys : List (List AV)} {sz : Nat} (h : ARows xs ys sz) : ALe (.slx sz xs) (.sl sz ys) := fun w M y ⟨a, us, h1, h2, h3, h4⟩ =>
  ⟨a, _, us, by rw [← h.1]; exact h1, by rw [← h.1]; exact Nat.le_refl _, h2, h.2 w M us h3, h4.imp (fun e => List.eq_nil_of_length_eq_zero (by rw [← h.1, e]; rfl)) id⟩
theorem ale_slR {xs ys : List (List AV)} {sz : Nat} (h : ARows xs ys sz) : ALe (.sl sz xs) (.sl sz ys) := fun w M y ⟨a, c, us, h1, h0, h2, h3, h4⟩ =>
  ⟨a, c, us, by rw [← h.1]; exact h1, by rw [← h.1]; exact h0, h2, h.2 w M us h3, h4.imp (fun e => List.eq_nil_of_length_eq_zero (by rw [← h.1, e]; rfl)) id⟩
section
variable {P : Program} {env : Env} {d : Option Nat} {ty : TypeId} {pos : String} {af : Array Edge} {gd : Option (Nat × Bool)}
variable {a b : Operand} {t t2 : TypeId}
def isPt (P : Program) (t : TypeId) : Bool := match P.underlying t with
  | some (.pointer e) => Nat.beq (P.pointee t) e
  | _ => false
theorem isPt_spec (h : isPt P t = true) : P.underlying t = some (.pointer (P.pointee t)) := by
  unfold isPt at h
  cases hu : P.underlying t with
  | none => simp [hu] at h
  | some q => cases q <;> simp [hu] at h; rw [h]
theorem q_eqP {p : Option Addr} (hT : isPt P t = true) (ha : evA env a = some (.v (.pointer p))) (hb : evA env b = some (.v (.pointer none))) : QOK P ⟨d, .binOp .eql t a b t2, ty, pos, af, gd⟩ env (.v (.bool p.isNone)) :=
  q_of fun w s ρ hs hr => by
    have h1 : ρ a = _ := hr.1 a (by simp [Op.operands]) _ ha
    have h2 : ρ b = _ := hr.1 b (by simp [Op.operands]) _ hb
    refine ⟨.bool p.isNone, ?_, rfl⟩
    have hg : (eqGuard .eql t a b (.pointer p) (.pointer none)).run P w = .ok () w := by
      unfold eqGuard; split <;> simp
    simp only [execOp, h1, h2, Sem.run_bind, hg, Result.andThen_ok, run_eql_pointer_nil w t p (isPt_spec hT)]
    rfl
end
end Go.Vc

set_option linter.unusedVariables false
namespace Go.Vc
structure NdOK (i : Nat) (x : Nd) : Prop where
  kd : 0 ≤ x.k ∧ x.k ≤ 6
  us : ∀ a ∈ usesN x, 0 ≤ a ∧ a < i
  pl : plainN x = x
def WfB (nd : List Nd) : Prop := ∀ i, i < nd.length → NdOK i (nd.getD i default)
def bv (v : Nat → Bool) (a : Int) : Bool := v a.toNat
structure SatN (v : Nat → Bool) (i : Nat) (x : Nd) : Prop where
  k0 : x.k = 0 → v i = decide (x.a = 1)
  k2 : x.k = 2 → v i = !bv v x.a
  k3 : x.k = 3 → v i = (bv v x.a && bv v x.b)
  k4 : x.k = 4 → v i = (bv v x.a || bv v x.b)
  k5 : x.k = 5 → v i = (bv v x.a ^^ bv v x.b)
  k6 : x.k = 6 → v i = bif bv v x.c then bv v x.b else bv v x.a
def Mod (v : Nat → Bool) (nd : List Nd) : Prop := ∀ i, i < nd.length → SatN v i (nd.getD i default)
def wv (v : Nat → Bool) : List Int → Nat
  | [] => 0
  | a :: l => (bv v a).toNat + 2 * wv v l
theorem wv_lt (v : Nat → Bool) : ∀ l, wv v l < 2 ^ l.length
  | [] => by simp [wv]
  | a :: l => by
    have h1 := wv_lt v l
    have h2 : (bv v a).toNat ≤ 1 := Bool.toNat_le _
    simp only [wv, List.length_cons, Nat.pow_succ]; omega
theorem wv_app (v : Nat → Bool) : ∀ l m, wv v (l ++ m) = wv v l + 2 ^ l.length * wv v m
  | [], m => by simp [wv]
  | a :: l, m => by
    simp only [List.cons_append, wv, wv_app v l m, List.length_cons, Nat.pow_succ]
    rw [Nat.mul_comm (2 ^ l.length) 2, Nat.mul_assoc, Nat.mul_add]; omega
theorem wv_take (v : Nat → Bool) (l : List Int) (k : Nat) : wv v (l.take k) = wv v l % 2 ^ k := by
  rcases Nat.lt_or_ge k l.length with h | h
  · have e := wv_app v (l.take k) (l.drop k)
    rw [List.take_append_drop] at e
    have h1 := wv_lt v (l.take k)
    have h2 : (l.take k).length = k := by simp; omega
    rw [h2] at e h1
    rw [e, Nat.add_mul_mod_self_left, Nat.mod_eq_of_lt h1]
  · rw [List.take_of_length_le h, Nat.mod_eq_of_lt]
    exact Nat.lt_of_lt_of_le (wv_lt v l) (Nat.pow_le_pow_right (by decide) h)
theorem wv_drop (v : Nat → Bool) (l : List Int) (k : Nat) : wv v (l.drop k) = wv v l / 2 ^ k := by
  rcases Nat.lt_or_ge k l.length with h | h
  · have e := wv_app v (l.take k) (l.drop k)
    rw [List.take_append_drop] at e
    have h1 := wv_lt v (l.take k)
    have h2 : (l.take k).length = k := by simp; omega
    rw [h2] at e h1
    rw [e, Nat.add_mul_div_left _ _ (Nat.pow_pos (by decide)), Nat.div_eq_of_lt h1, Nat.zero_add]
  · rw [List.drop_of_length_le h, Nat.div_eq_of_lt]
    · rfl
    · exact Nat.lt_of_lt_of_le (wv_lt v l) (Nat.pow_le_pow_right (by decide) h)
theorem wv_bit (v : Nat → Bool) : ∀ (l : List Int) (i : Nat), i < l.length → (wv v l).testBit i = bv v (l.getD i default)
  | a :: l, 0, h => by
    rw [Nat.testBit_zero]
    simp only [wv, List.getD_cons_zero]
    have e : ((bv v a).toNat + 2 * wv v l) % 2 = (bv v a).toNat := by have := Bool.toNat_le (bv v a); omega
    simp only [e]
    cases h : bv v a <;> simp
  | a :: l, i + 1, h => by
    have e : wv v (a :: l) / 2 = wv v l := by
      have h2 : (bv v a).toNat ≤ 1 := Bool.toNat_le _
      simp only [wv]; omega
    rw [Nat.testBit_succ, e, wv_bit v l i (by simpa using h)]
    rfl
theorem wv_bit_out (v : Nat → Bool) (l : List Int) (i : Nat) (h : l.length ≤ i) : (wv v l).testBit i = false :=
  Nat.testBit_lt_two_pow (Nat.lt_of_lt_of_le (wv_lt v l) (Nat.pow_le_pow_right (by decide) h))
theorem wv_ext {v : Nat → Bool} {l : List Int} {n : Nat} (hn : n < 2 ^ l.length) (h : ∀ i, i < l.length → bv v (l.getD i default) = n.testBit i) : wv v l = n := by
  apply Nat.eq_of_testBit_eq
  intro i
  rcases Nat.lt_or_ge i l.length with hi | hi
  · rw [wv_bit v l i hi, h i hi]
  · rw [wv_bit_out v l i hi]
    exact (Nat.testBit_lt_two_pow (Nat.lt_of_lt_of_le hn (Nat.pow_le_pow_right (by decide) hi))).symm
theorem wv_one (v : Nat → Bool) (a : Int) : wv v [a] = (bv v a).toNat := by simp [wv]
theorem wv_snoc (v : Nat → Bool) (l : List Int) (a : Int) : wv v (l ++ [a]) = wv v l + 2 ^ l.length * (bv v a).toNat := by rw [wv_app, wv_one]
def B1 (nd : List Nd) (a : Int) : Prop := 0 ≤ a ∧ a < nd.length
def BW (nd : List Nd) (x : List Int) : Prop := ∀ a ∈ x, 0 ≤ a ∧ a < nd.length
structure Gr (nd nd' : List Nd) (c : Nat) : Prop where
  pre : nd <+: nd'
  wf : WfB nd'
  len : nd'.length ≤ nd.length + c
theorem Gr.refl {nd : List Nd} (h : WfB nd) (c : Nat) : Gr nd nd c := ⟨List.prefix_refl _, h, Nat.le_add_right _ _⟩
theorem Gr.trans {a b c : List Nd} {m n k : Nat} (h1 : Gr a b m) (h2 : Gr b c n) (hk : m + n ≤ k) : Gr a c k :=
  ⟨h1.pre.trans h2.pre, h2.wf, by have := h1.len; have := h2.len; omega⟩
theorem Gr.le {a b : List Nd} {m k : Nat} (h1 : Gr a b m) (hk : m ≤ k) : Gr a b k := ⟨h1.pre, h1.wf, by have := h1.len; omega⟩
theorem Gr.ge {a b : List Nd} {m : Nat} (h1 : Gr a b m) : a.length ≤ b.length := h1.pre.length_le
theorem B1.gr {a b : List Nd} {m : Nat} {x : Int} (h : B1 a x) (g : Gr a b m) : B1 b x := ⟨h.1, by have := h.2; have := g.ge; omega⟩
theorem BW.gr {a b : List Nd} {m : Nat} {x : List Int} (h : BW a x) (g : Gr a b m) : BW b x := fun i hi => B1.gr (h i hi) g
theorem BW.nil {nd : List Nd} : BW nd [] := fun _ h => by cases h
theorem BW.app {nd : List Nd} {x y : List Int} (h : BW nd x) (k : BW nd y) : BW nd (x ++ y) := fun a ha => by
  rcases List.mem_append.1 ha with ha | ha
  · exact h a ha
  · exact k a ha
theorem BW.one {nd : List Nd} {a : Int} (h : B1 nd a) : BW nd [a] := fun b hb => by
  have e : b = a := by simpa using hb
  subst e; exact h
theorem BW.take {nd : List Nd} {x : List Int} (h : BW nd x) (k : Nat) : BW nd (x.take k) := fun a ha => h a (List.mem_of_mem_take ha)
theorem BW.drop {nd : List Nd} {x : List Int} (h : BW nd x) (k : Nat) : BW nd (x.drop k) := fun a ha => h a (List.mem_of_mem_drop ha)
theorem BW.get {nd : List Nd} {x : List Int} (h : BW nd x) {i : Nat} (hi : i < x.length) : B1 nd (x.getD i default) := h _ (getD_mem hi)
theorem BW.rep {nd : List Nd} {a : Int} (h : B1 nd a) (n : Nat) : BW nd (List.replicate n a) := fun b hb => by
  obtain rfl := (List.mem_replicate.1 hb).2; exact h
theorem Mod.pre {v : Nat → Bool} {a b : List Nd} (h : Mod v b) (p : a <+: b) : Mod v a := by
  intro i hi
  obtain ⟨t, rfl⟩ := p
  have := h i (by simp; omega)
  rwa [show (a ++ t).getD i default = a.getD i default by simp [List.getD_eq_getElem?_getD, List.getElem?_append_left hi]] at this
theorem Mod.gr {v : Nat → Bool} {a b : List Nd} {m : Nat} (h : Mod v b) (g : Gr a b m) : Mod v a := h.pre g.pre
theorem getD_snoc (nd : List Nd) (x : Nd) : (nd ++ [x]).getD nd.length default = x := by simp [List.getD_eq_getElem?_getD]
theorem WfB.snoc {nd : List Nd} {x : Nd} (h : WfB nd) (hx : NdOK nd.length x) : WfB (nd ++ [x]) := by
  intro i hi
  rcases Nat.lt_or_ge i nd.length with h1 | h1
  · rw [show (nd ++ [x]).getD i default = nd.getD i default by simp [List.getD_eq_getElem?_getD, List.getElem?_append_left h1]]
    exact h i h1
  · obtain rfl : i = nd.length := by simp at hi; omega
    rw [getD_snoc]; exact hx
theorem Gr.snoc {nd : List Nd} {x : Nd} (h : WfB nd) (hx : NdOK nd.length x) : Gr nd (nd ++ [x]) 1 := ⟨List.prefix_append _ _, h.snoc hx, by simp⟩
theorem Mod.last {v : Nat → Bool} {nd : List Nd} {x : Nd} (h : Mod v (nd ++ [x])) : SatN v nd.length x := by
  have := h nd.length (by simp)
  rwa [getD_snoc] at this
theorem B1.new (nd : List Nd) (x : Nd) : B1 (nd ++ [x]) nd.length := ⟨by omega, by simp; omega⟩
end Go.Vc
namespace Go.Vc
def gen (x y : Nat → Bool) (lo : Nat) : Nat → Bool
  | 0 => false
  | n + 1 => (x (lo + n) && y (lo + n)) || ((x (lo + n) ^^ y (lo + n)) && gen x y lo n)
def prp (x y : Nat → Bool) (lo : Nat) : Nat → Bool
  | 0 => true
  | n + 1 => (x (lo + n) ^^ y (lo + n)) && prp x y lo n
theorem prp_add (x y : Nat → Bool) (lo a : Nat) : ∀ b, prp x y lo (a + b) = (prp x y (lo + a) b && prp x y lo a)
  | 0 => by simp [prp]
  | b + 1 => by
    rw [← Nat.add_assoc, prp, prp, prp_add x y lo a b, Nat.add_assoc lo a b, Bool.and_assoc]
theorem gen_add (x y : Nat → Bool) (lo a : Nat) : ∀ b, gen x y lo (a + b) = (gen x y (lo + a) b || (prp x y (lo + a) b && gen x y lo a))
  | 0 => by simp [gen, prp]
  | b + 1 => by
    rw [← Nat.add_assoc, gen, gen, prp, gen_add x y lo a b, Nat.add_assoc lo a b]
    cases x (lo + (a + b)) <;> cases y (lo + (a + b)) <;> simp
def car (x y : Nat → Bool) (c : Bool) (n : Nat) : Bool := gen x y 0 n || (prp x y 0 n && c)
theorem car_zero (x y : Nat → Bool) (c : Bool) : car x y c 0 = c := by simp [car, gen, prp]
theorem car_succ (x y : Nat → Bool) (c : Bool) (n : Nat) : car x y c (n + 1) = ((x n && y n) || ((x n ^^ y n) && car x y c n)) := by
  simp only [car, gen, prp, Nat.zero_add]
  cases x n <;> cases y n <;> simp
def num (x : Nat → Bool) : Nat → Nat
  | 0 => 0
  | n + 1 => num x n + 2 ^ n * (x n).toNat
theorem num_congr {x y : Nat → Bool} : ∀ {n : Nat}, (∀ i, i < n → x i = y i) → num x n = num y n
  | 0, _ => rfl
  | n + 1, h => by rw [num, num, num_congr fun i hi => h i (by omega), h n (by omega)]
theorem num_lt (x : Nat → Bool) : ∀ n, num x n < 2 ^ n
  | 0 => by simp [num]
  | n + 1 => by
    have h1 := num_lt x n
    have h2 : (x n).toNat ≤ 1 := Bool.toNat_le _
    have h3 : 2 ^ n * (x n).toNat ≤ 2 ^ n * 1 := Nat.mul_le_mul_left _ h2
    rw [num, Nat.pow_succ]; omega
theorem num_carry (x y : Nat → Bool) (c : Bool) : ∀ n, num (fun i => x i ^^ y i ^^ car x y c i) n + 2 ^ n * (car x y c n).toNat = num x n + num y n + c.toNat
  | 0 => by simp [num, car_zero]
  | n + 1 => by
    have ih := num_carry x y c n
    simp only [num, car_succ, Nat.pow_succ]
    generalize 2 ^ n = p at *
    revert ih
    cases x n <;> cases y n <;> cases car x y c n <;> simp <;> intro ih <;> omega
theorem num_shift (f : Nat → Bool) : ∀ n, num f (n + 1) = (f 0).toNat + 2 * num (fun i => f (i + 1)) n
  | 0 => by simp [num]
  | n + 1 => by
    rw [num, num_shift f n, num, Nat.pow_succ, Nat.mul_comm (2 ^ n) 2, Nat.mul_assoc, Nat.mul_add, Nat.add_assoc]
theorem wv_num (v : Nat → Bool) : ∀ l : List Int, wv v l = num (fun i => bv v (l.getD i default)) l.length
  | [] => rfl
  | a :: l => by
    rw [wv, wv_num v l, List.length_cons, num_shift]
    simp
theorem pad_mod (v : Nat → Bool) (x : List Int) (w : Nat) : wv v x % 2 ^ min x.length w = wv v x % 2 ^ w := by
  rcases Nat.le_total x.length w with h | h
  · rw [Nat.min_eq_left h, Nat.mod_eq_of_lt (wv_lt v x), Nat.mod_eq_of_lt (Nat.lt_of_lt_of_le (wv_lt v x) (Nat.pow_le_pow_right (by decide) h))]
  · rw [Nat.min_eq_right h]
end Go.Vc

set_option linter.unusedVariables false
set_option linter.unusedSimpArgs false
namespace Go.Vc
section
variable {P : Program} {env : Env} {s : St} {d : Option Nat} {ty : TypeId} {pos : String} {af : Array Edge} {gd : Option (Nat × Bool)}
variable {a b : Operand} {x y : AV} {t t2 : TypeId} {K : AV → St → Prop}
def nilOV (l : List (Nat × Nat)) : List OV := l.map fun p => .r p.1 p.2 []
theorem OVsOK_nilOV {w : World} {M : Mset} : ∀ (l : List (Nat × Nat)), OVsOK w M (nilOV l) (l.map fun _ => Value.slice none 0 0) []
  | [] => ⟨rfl, rfl⟩
  | p :: l => ⟨_, _, rfl, .inl ⟨rfl, ⟨none, rfl⟩, OVsOK_nilOV l⟩⟩
theorem e_boxN (l : List (Nat × Nat)) (hx : evA env a = some (.agg (l.map fun _ => nilS))) (h : ∀ k, s k = none → K (ptv k 0) (upd s k (.obj [k] (nilOV l)))) : EffOK P ⟨d, .box t a, ty, pos, af, gd⟩ env s K := by
  intro w ρ hs hr
  obtain ⟨us, h1, h2⟩ := hr.1 a (by simp [Op.operands]) _ hx
  have key : ∀ (l : List (Nat × Nat)) (us : List Value), RepL w (Mut s) (l.map fun _ => nilS) us → us = l.map fun _ => Value.slice none 0 0 := by
    intro l
    induction l with
    | nil => intro us h; exact h
    | cons p l ih =>
      rintro us ⟨u, us', rfl, h3, h4⟩
      cases h3
      rw [ih us' h4]; rfl
  have hus := key l us h2
  subst hus
  obtain ⟨g1, g2⟩ := newE hs (l.map fun _ => Value.slice none 0 0).toArray t (.obj [w.heap.size] (nilOV l)) (fun b hb => by simpa [fp] using hb)
    (fun f => ⟨_, t, [], heap_alloc_new w _, rfl, by simp, by simpa using OVsOK_nilOV l⟩)
  have hrun : (execOp ρ ⟨d, .box t a, ty, pos, af, gd⟩).run P w = .ok (.value (.pointer (some ⟨w.heap.size, 0, none⟩))) (w.alloc (.cells (l.map fun _ => Value.slice none 0 0).toArray t)) := by
    simp [execOp, h1, Instr.box, newVar, Go.newRow, Value.cells]
  rw [hrun]
  exact ⟨ptv w.heap.size 0, _, rfl, g1, g2, h _ (Mut.none_of_ge hs (Nat.le_refl _))⟩
end
theorem CallsA.frz {P : Program} {f : FuncId} {avs : List AV} {s : St} {K : AV → St → Prop} {e sz : Nat} (h : CallsA P f avs s (fun r s' => ∃ rows s1, OwnSt s1 r e sz rows s' ∧ K (.sl sz rows) s1)) : CallsA P f avs s K :=
  fun w vs hs hr => (h w vs hs hr).mono fun e' w' he => by
    cases e' with
    | returned v =>
      obtain ⟨r, s', h1, h2, h3, rows, s1, h4, h5⟩ := he
      exact ⟨.sl sz rows, s1, h4.frz w' v h2 h1, h2.le h4.le, h3.trans (Fr.of_le h4.le), h5⟩
    | panicked c => exact he
    | outgrown => exact he
theorem OwnSt.set {s0 s : St} {k e sz m : Nat} {xs ys : List (List AV)} (h : OwnSt s0 (.hdr k sz m) e sz xs s) (hl : ys.length = xs.length) : OwnSt s0 (.hdr k sz m) e sz ys (upd s k (.arr e sz ys)) := by
  rcases h with ⟨_, _, h | h⟩ | ⟨k', hx, hk, rfl⟩
  · cases h
  · cases h
  · cases hx
    exact .inr ⟨k, by rw [hl], hk, by rw [upd_upd]⟩
section
variable {P : Program} {env : Env} {s : St} {d : Option Nat} {ty : TypeId} {pos : String} {af : Array Edge} {gd : Option (Nat × Bool)}
variable {t : TypeId} {K : AV → St → Prop}
theorem e_allocO {e sz : Nat} (hz : zrA P t = some [.slice none 0 0]) (h : ∀ k, s k = none → K (ptv k 0) (upd s k (.obj [k] [.r e sz []]))) : EffOK P ⟨d, .alloc t, ty, pos, af, gd⟩ env s K := by
  intro w ρ hs hr
  obtain ⟨z, h1, h2⟩ := zrA_spec hz
  have hc : z.cells = #[Value.slice none 0 0] := by
    apply Array.toList_inj.1; rw [h2]
  obtain ⟨g1, g2⟩ := newE hs z.cells t (.obj [w.heap.size] (nilOV [(e, sz)])) (fun b hb => by simpa [fp] using hb)
    (fun f => ⟨_, t, [], heap_alloc_new w _, rfl, by simp, by rw [hc]; exact OVsOK_nilOV [(e, sz)]⟩)
  have hrun : (execOp ρ ⟨d, .alloc t, ty, pos, af, gd⟩).run P w = .ok (.value (.pointer (some ⟨w.heap.size, 0, none⟩))) (w.alloc (.cells z.cells t)) := by
    simp [execOp, Instr.alloc, newVar, Go.newRow, h1 w]
  rw [hrun]
  exact ⟨ptv w.heap.size 0, _, rfl, g1, g2, h _ (Mut.none_of_ge hs (Nat.le_refl _))⟩
end
def ovA : OV → AV
  | .a x => x
  | .r _ sz xs => .sl sz xs
theorem OVsOK.repL {w : World} {M : Mset} : ∀ {cs : List OV} {us : List Value} {G : List Nat}, OVsOK w M cs us G → (∀ b ∈ G, ¬ M b) → RepL w M (cs.map ovA) us
  | [], _, _, ⟨h, _⟩, _ => h
  | .a x :: cs, _, G, ⟨u, us', rfl, h1, h2⟩, hm => ⟨_, us', rfl, h1, OVsOK.repL h2 hm⟩
  | .r e sz xs :: cs, _, G, ⟨u, us', rfl, h⟩, hm => by
    rcases h with ⟨rfl, ⟨ad, rfl⟩, h3⟩ | ⟨g, cap, G', rfl, ⟨cur, h4, h5, h6, h7, h8⟩, rfl, h9, h3⟩
    · exact ⟨_, us', rfl, ⟨ad, 0, [], rfl, Nat.le_refl _, Nat.zero_le _, rfl, .inl rfl⟩, OVsOK.repL h3 hm⟩
    · refine ⟨_, us', rfl, ⟨_, cap, cur.toList.take (xs.length * sz), rfl, h6, h7, h8, .inr ⟨g, 0, rfl, fun _ => hm g (by simp), fun j u hj => ?_⟩⟩, OVsOK.repL h3 (fun b hb => hm b (by simp [hb]))⟩
      rw [Nat.zero_add, cell_res h4]
      rw [List.getElem?_take] at hj
      split at hj
      · simpa using hj
      · cases hj
theorem Cv.frzB {s s0 : St} {k : Nat} {F : List Nat} {cs : List OV} (h0 : s0 k = none) (hs : s = upd s0 k (.obj F cs)) : Le s0 s ∧ Cv s s0 (ptv k 0) (.box (cs.map ovA)) := by
  subst hs
  have hle : Le s0 (upd s0 k (.obj F cs)) := Le.new1 h0
  refine ⟨hle, fun w y hs hr => ?_⟩
  obtain rfl : y = _ := hr
  obtain ⟨cur, t, G, h4, rfl, h5, h6⟩ := hs.ok k _ (upd_same _ _ _)
  have hm : ∀ b ∈ k :: G, ¬ Mut s0 b := by
    rintro b hb ⟨j, r, h7, h8⟩
    have := hs.disj j r k _ b (hle j r h7) (upd_same _ _ _) h8 hb
    subst this; rw [h0] at h7; cases h7
  have h6' : OVsOK w (Mut s0) cs cur.toList G := OVsOK.congr (fun b hb => hb.le hle) h6
  refine ⟨k, 0, cur.toList, rfl, OVsOK.repL h6' (fun b hb => hm b (by simp [hb])), fun _ => hm k (by simp), fun j u hj => ?_⟩
  rw [Nat.zero_add, cell_res h4]; simpa using hj
theorem vc_frzB {P : Program} {N : Nat} {Q : EQ} {env : Env} {s s0 : St} {c : Code} {i k : Nat} {F : List Nat} {cs : List OV} (h0 : s0 k = none) (hs : s = upd s0 k (.obj F cs)) (hi : env i = some (ptv k 0)) (h : VC P N c Q (upd env i (.box (cs.map ovA))) s0) : VC P N c Q env s := by
  obtain ⟨h1, h2⟩ := Cv.frzB h0 hs
  refine vc_conv h1 (fun j y hy => ?_) h
  by_cases e : j = i
  · subst e; rw [upd_same] at hy; cases hy; exact ⟨_, hi, h2⟩
  · rw [upd_ne _ _ e] at hy; exact ⟨y, hy, Cv.le h1 y⟩
section
variable {P : Program} {env : Env} {s : St} {d : Option Nat} {ty : TypeId} {pos : String} {af : Array Edge} {gd : Option (Nat × Bool)}
variable {t : TypeId} {α : Type} {f : α → List AV} {xs : List α} {o : Operand} {l' h' : Int} {e sz bb : Nat}
theorem q_sliceM {lo hi : Option Operand} (a b : Nat) (hT : slT P t = some (e, sz, bb)) (ha : evA env o = some (.sl sz (xs.map f))) (hl : loV lo env = some l') (hh : hiV (xs.map f).length hi env = some h') (h0 : l' = a) (h1 : h' = b) (h2 : a ≤ b ∧ b ≤ xs.length) :
    QOK P ⟨d, .slice t o lo hi none, ty, pos, af, gd⟩ env (.sl sz (((xs.take b).drop a).map f)) := by
  subst h0 h1
  have h := q_slice (P := P) (d := d) (ty := ty) (pos := pos) (af := af) (gd := gd) (env := env) hT ha hl hh (by omega) (by omega) (by simp; omega)
  simpa [List.map_take, List.map_drop] using h
theorem q_slice3M {lo : Option Operand} {o1 o2 : Operand} (a b : Nat) (hT : slT P t = some (e, sz, bb)) (ha : evA env o = some (.sl sz (xs.map f))) (hl : loV lo env = some l') (hh : hiV (xs.map f).length (some o1) env = some h') (hm : hiV (xs.map f).length (some o2) env = some h') (h0 : l' = a) (h1 : h' = b) (h2 : a ≤ b ∧ b ≤ xs.length) :
    QOK P ⟨d, .slice t o lo (some o1) (some o2), ty, pos, af, gd⟩ env (.slx sz (((xs.take b).drop a).map f)) := by
  subst h0 h1
  have h := q_slice3 (P := P) (d := d) (ty := ty) (pos := pos) (af := af) (gd := gd) (env := env) hT ha hl hh hm (by omega) (by omega) (by simp; omega)
  simpa [List.map_take, List.map_drop] using h
end
end Go.Vc
